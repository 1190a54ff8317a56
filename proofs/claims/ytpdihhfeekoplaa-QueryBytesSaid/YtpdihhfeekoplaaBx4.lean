-- Laid by program out of the translation, some functions' texts by hand (a session's own run, not print.sh's). Lean checks it.
import Derived.Test.YtpdihhfeekoplaaBx0
import Derived.Test.YtpdihhfeekoplaaBx1
namespace Go.Proofs.Ytpdihhfeekoplaa.B
open Go.RowKit Go.Proofs.YtpdihhfeekoplaaW.PrintWords Go.Proofs.YtpdihhfeekoplaaW.PrintLast Go.Proofs.YtpdihhfeekoplaaW.PrintMore
attribute [local go_sem] max2_int min2_int max_two min_two max_three min_three max_four min_four   -- for this text's walks alone
set_option linter.unusedVariables false
set_option linter.unusedSimpArgs false
theorem zA_ (l : List Value) (i : Nat) (a : Value) : l.toArray.setIfInBounds i a = (l.set i a).toArray := List.setIfInBounds_toArray ..
theorem zB_ (x a : Value) (xs : List Value) : (x :: xs).set 0 a = a :: xs := rfl
theorem zC_ (x a : Value) (xs : List Value) (n : Nat) : (x :: xs).set (n + 1) a = x :: xs.set n a := rfl
abbrev T_ : Bool := true
abbrev F_ : Bool := false

/-! ### greenscreenref24_Write: function 9 -/
mutual
def greenscreenref24_Write.j0 : Nat → Int → Int → Bool → Int → Int → Int → Int → List Int → List Int → Option (List Int × Int)
 | 0, _, _, _, _, _, _, _, _, _ => none
 | k + 1, x4, x5, x18, x140000, x140001, x140002, x140003, x140004, x140005 => if x18 = true then (some (([] : List Int), 1)) else (if (x140004.length : Int) > 64 then (greenscreenref24_Write.j1 k x4 x5 true x140000 x140001 x140002 x140003 x140004 x140005) else (greenscreenref24_Write.j1 k x4 x5 (decide ((x140005.length : Int) > 64)) x140000 x140001 x140002 x140003 x140004 x140005))
def greenscreenref24_Write.j1 : Nat → Int → Int → Bool → Int → Int → Int → Int → List Int → List Int → Option (List Int × Int)
 | 0, _, _, _, _, _, _, _, _, _ => none
 | k + 1, x4, x5, x28, x140000, x140001, x140002, x140003, x140004, x140005 => if x28 = true then (some (([] : List Int), 3)) else (if x5 > x4 then (greenscreenref24_Write.j2 k x140000 x140001 x140002 x140003 x140004 x140005 x140002 x140003) else (greenscreenref24_Write.j2 k x140000 x140001 x140002 x140003 x140004 x140005 x140000 x140001))
def greenscreenref24_Write.j2 : Nat → Int → Int → Int → Int → List Int → List Int → Int → Int → Option (List Int × Int)
 | 0, _, _, _, _, _, _, _, _ => none
 | k + 1, x140000, x140001, x140002, x140003, x140004, x140005, x143000, x143001 => (greenscreenref24_field.f k 128 (([128, 129, 134, 135, 166] : List Int))).bind fun t149 => ((greenscreenref24_size.f k x143000 x143001).bind fun t152 => ((greenscreenref24_field.f k 129 t152).bind fun t155 => ((greenscreenref01_Join.f k (([(([((x140004.length : Int)) % 256] : List Int)), x140004] : List (List Int)))).bind fun t164 => ((greenscreenref24_field.f k 134 t164).bind fun t167 => ((greenscreenref01_Join.f k (([(([((x140005.length : Int)) % 256] : List Int)), x140005] : List (List Int)))).bind fun t176 => ((greenscreenref24_field.f k 135 t176).bind fun t179 => ((greenscreenref24_size.f k x140000 x140001).bind fun t182 => ((greenscreenref24_size.f k x140002 x140003).bind fun t185 => ((greenscreenref01_Join.f k (([t182, t185] : List (List Int)))).bind fun t191 => ((greenscreenref24_field.f k 166 t191).bind fun t194 => ((greenscreenref01_Join.f k (([(([136] : List Int)), t149, t155, t167, t179, t194] : List (List Int)))).bind fun t200 => (some (t200, 0)))))))))))))
end
def greenscreenref24_Write.f (k : Nat) (a0_0 : Int) (a0_1 : Int) (a0_2 : Int) (a0_3 : Int) (l0_4 : List Int) (l0_5 : List Int) : Option (List Int × Int) := (greenscreenref02_Cells.f a0_0 a0_1).bind fun t140 => ((greenscreenref02_Cells.f a0_2 a0_3).bind fun t141 => (if t140 = 0 then (greenscreenref24_Write.j0 k t140 t141 true a0_0 a0_1 a0_2 a0_3 l0_4 l0_5) else (greenscreenref24_Write.j0 k t140 t141 (t141 == 0) a0_0 a0_1 a0_2 a0_3 l0_4 l0_5)))
theorem greenscreenref24_Write.mono_l : ∀ k, (∀ y0 y1 y2 y3 y4 y5 y6 y7 y8, LeO (greenscreenref24_Write.j0 k y0 y1 y2 y3 y4 y5 y6 y7 y8) (greenscreenref24_Write.j0 (k + 1) y0 y1 y2 y3 y4 y5 y6 y7 y8)) ∧ (∀ y0 y1 y2 y3 y4 y5 y6 y7 y8, LeO (greenscreenref24_Write.j1 k y0 y1 y2 y3 y4 y5 y6 y7 y8) (greenscreenref24_Write.j1 (k + 1) y0 y1 y2 y3 y4 y5 y6 y7 y8)) ∧ (∀ y0 y1 y2 y3 y4 y5 y6 y7, LeO (greenscreenref24_Write.j2 k y0 y1 y2 y3 y4 y5 y6 y7) (greenscreenref24_Write.j2 (k + 1) y0 y1 y2 y3 y4 y5 y6 y7))
 | 0 => ⟨fun _ _ _ _ _ _ _ _ _ r h => by simp [greenscreenref24_Write.j0] at h, fun _ _ _ _ _ _ _ _ _ r h => by simp [greenscreenref24_Write.j1] at h, fun _ _ _ _ _ _ _ _ r h => by simp [greenscreenref24_Write.j2] at h⟩
 | k + 1 => by
  obtain ⟨ih0, ih1, ih2⟩ := greenscreenref24_Write.mono_l k
  refine ⟨?_, ?_, ?_⟩
  ·intro y0 y1 y2 y3 y4 y5 y6 y7 y8
   unfold greenscreenref24_Write.j0
   repeat' first
   | (with_reducible exact ih0 _ _ _ _ _ _ _ _ _)
   | (with_reducible exact ih1 _ _ _ _ _ _ _ _ _)
   | (with_reducible exact ih2 _ _ _ _ _ _ _ _)
   | (with_reducible exact greenscreenref01_Join.mono _ _)
   | (with_reducible exact greenscreenref24_field.mono _ _ _)
   | (with_reducible exact greenscreenref24_size.mono _ _ _)
   | (with_reducible exact LeO.refl _)
   | (with_reducible exact LeO.none _)
   | (with_reducible refine LeO.ite ?_ ?_)
   | (with_reducible refine LeO.bind ?_ (fun _ => ?_))
   | exact ih0 _ _ _ _ _ _ _ _ _
   | exact ih1 _ _ _ _ _ _ _ _ _
   | exact ih2 _ _ _ _ _ _ _ _
   | exact greenscreenref01_Join.mono _ _
   | exact greenscreenref24_field.mono _ _ _
   | exact greenscreenref24_size.mono _ _ _
   | exact LeO.none _
   | refine LeO.ite ?_ ?_
   | refine LeO.bind ?_ (fun _ => ?_)
  ·intro y0 y1 y2 y3 y4 y5 y6 y7 y8
   unfold greenscreenref24_Write.j1
   repeat' first
   | (with_reducible exact ih0 _ _ _ _ _ _ _ _ _)
   | (with_reducible exact ih1 _ _ _ _ _ _ _ _ _)
   | (with_reducible exact ih2 _ _ _ _ _ _ _ _)
   | (with_reducible exact greenscreenref01_Join.mono _ _)
   | (with_reducible exact greenscreenref24_field.mono _ _ _)
   | (with_reducible exact greenscreenref24_size.mono _ _ _)
   | (with_reducible exact LeO.refl _)
   | (with_reducible exact LeO.none _)
   | (with_reducible refine LeO.ite ?_ ?_)
   | (with_reducible refine LeO.bind ?_ (fun _ => ?_))
   | exact ih0 _ _ _ _ _ _ _ _ _
   | exact ih1 _ _ _ _ _ _ _ _ _
   | exact ih2 _ _ _ _ _ _ _ _
   | exact greenscreenref01_Join.mono _ _
   | exact greenscreenref24_field.mono _ _ _
   | exact greenscreenref24_size.mono _ _ _
   | exact LeO.none _
   | refine LeO.ite ?_ ?_
   | refine LeO.bind ?_ (fun _ => ?_)
  ·intro y0 y1 y2 y3 y4 y5 y6 y7
   unfold greenscreenref24_Write.j2
   repeat' first
   | (with_reducible exact ih0 _ _ _ _ _ _ _ _ _)
   | (with_reducible exact ih1 _ _ _ _ _ _ _ _ _)
   | (with_reducible exact ih2 _ _ _ _ _ _ _ _)
   | (with_reducible exact greenscreenref01_Join.mono _ _)
   | (with_reducible exact greenscreenref24_field.mono _ _ _)
   | (with_reducible exact greenscreenref24_size.mono _ _ _)
   | (with_reducible exact LeO.refl _)
   | (with_reducible exact LeO.none _)
   | (with_reducible refine LeO.ite ?_ ?_)
   | (with_reducible refine LeO.bind ?_ (fun _ => ?_))
   | exact ih0 _ _ _ _ _ _ _ _ _
   | exact ih1 _ _ _ _ _ _ _ _ _
   | exact ih2 _ _ _ _ _ _ _ _
   | exact greenscreenref01_Join.mono _ _
   | exact greenscreenref24_field.mono _ _ _
   | exact greenscreenref24_size.mono _ _ _
   | exact LeO.none _
   | refine LeO.ite ?_ ?_
   | refine LeO.bind ?_ (fun _ => ?_)
theorem greenscreenref24_Write.mono : ∀ a0 a1 a2 a3 a4 a5 k, LeO (greenscreenref24_Write.f k a0 a1 a2 a3 a4 a5) (greenscreenref24_Write.f (k + 1) a0 a1 a2 a3 a4 a5) := by
 intro a0 a1 a2 a3 a4 a5 k
 obtain ⟨ih0, ih1, ih2⟩ := greenscreenref24_Write.mono_l k
 unfold greenscreenref24_Write.f
 repeat' first
   | (with_reducible exact ih0 _ _ _ _ _ _ _ _ _)
   | (with_reducible exact ih1 _ _ _ _ _ _ _ _ _)
   | (with_reducible exact ih2 _ _ _ _ _ _ _ _)
   | (with_reducible exact greenscreenref01_Join.mono _ _)
   | (with_reducible exact greenscreenref24_field.mono _ _ _)
   | (with_reducible exact greenscreenref24_size.mono _ _ _)
   | (with_reducible exact LeO.refl _)
   | (with_reducible exact LeO.none _)
   | (with_reducible refine LeO.ite ?_ ?_)
   | (with_reducible refine LeO.bind ?_ (fun _ => ?_))
   | exact ih0 _ _ _ _ _ _ _ _ _
   | exact ih1 _ _ _ _ _ _ _ _ _
   | exact ih2 _ _ _ _ _ _ _ _
   | exact greenscreenref01_Join.mono _ _
   | exact greenscreenref24_field.mono _ _ _
   | exact greenscreenref24_size.mono _ _ _
   | exact LeO.none _
   | refine LeO.ite ?_ ?_
   | refine LeO.bind ?_ (fun _ => ?_)
def greenscreenref24_Write.T1 : Bool × List (List Nat × List Nat) := (true, [([], []), ([0], [0]), ([1], [1]), ([], []), ([3], [3]), ([4, 2], [4]), ([2, 5, 0, 1, 2], [2]), ([5, 6, 0, 1, 2, 3, 4, 5, 6], [5])])
def greenscreenref24_Write.B1 : List Nat := [0, 1, 3, 0, 8, 31, 63, 127]
theorem greenscreenref24_Write.tab1 : rtab .any (opsOf Try.f9 1) = greenscreenref24_Write.T1 := by kernel_rfl
theorem greenscreenref24_Write.bits1 : waitsOk greenscreenref24_Write.T1.2 greenscreenref24_Write.B1 = true := by kernel_rfl
def greenscreenref24_Write.T9 : Bool × List (List Nat × List Nat) := (true, [([], []), ([], []), ([1], [1]), ([], []), ([3, 2], [3]), ([4, 4], [4]), ([], []), ([6], [6]), ([7], [7]), ([8], [8]), ([9], [9]), ([], []), ([11], [11]), ([10, 12], [10, 12]), ([13, 5], [13]), ([14, 14], [14]), ([], []), ([16], [16]), ([17], [17]), ([18], [18]), ([19], [19]), ([], []), ([21], [21]), ([20, 22], [20, 22]), ([23, 15], [23]), ([24, 24], [24]), ([], []), ([26], [26]), ([27, 25], [27]), ([], []), ([29], [29]), ([30, 28], [30]), ([28, 31], [28, 31]), ([32, 31], [32]), ([33, 33], [33]), ([0, 2, 5, 15, 25, 34], [0, 2, 5, 15, 25, 34]), ([35, 34], [35]), ([36, 36, 0, 1, 2, 3, 4, 5, 6, 7, 8, 9, 10, 11, 12, 13, 14, 15, 16, 17, 18, 19, 20, 21, 22, 23, 24, 25, 26, 27, 28, 29, 30, 31, 32, 33, 34, 35, 36], [36]), ([37, 0, 1, 2, 3, 4, 5, 6, 7, 8, 9, 10, 11, 12, 13, 14, 15, 16, 17, 18, 19, 20, 21, 22, 23, 24, 25, 26, 27, 28, 29, 30, 31, 32, 33, 34, 35, 36, 37], [])])
def greenscreenref24_Write.B9 : List Nat := [0, 0, 2, 0, 14, 30, 0, 64, 192, 448, 960, 0, 2048, 8128, 16382, 32766, 0, 65536, 196608, 458752, 983040, 0, 2097152, 8323072, 16777214, 33554430, 0, 67108864, 268435454, 0, 536870912, 2147483646, 4294967294, 8589934590, 17179869182, 34359738367, 68719476735, 137438953471, 274877906943]
theorem greenscreenref24_Write.tab9 : rtab .any (opsOf Try.f9 9) = greenscreenref24_Write.T9 := by kernel_rfl
theorem greenscreenref24_Write.bits9 : waitsOk greenscreenref24_Write.T9.2 greenscreenref24_Write.B9 = true := by kernel_rfl
end Go.Proofs.Ytpdihhfeekoplaa.B
