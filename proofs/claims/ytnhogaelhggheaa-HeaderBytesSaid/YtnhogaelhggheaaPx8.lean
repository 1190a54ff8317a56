-- Laid by program out of the translation, some functions' texts by hand (a session's own run, not print.sh's). Lean checks it.
import Derived.Test.YtnhogaelhggheaaPx0
import Derived.Test.YtnhogaelhggheaaPx2
import Derived.Test.YtnhogaelhggheaaPx3
import Derived.Test.YtnhogaelhggheaaPx4
import Derived.Test.YtnhogaelhggheaaPx5
import Derived.Test.YtnhogaelhggheaaPx6
import Derived.Test.YtnhogaelhggheaaPx7
namespace Go.Proofs.Ytnhogaelhggheaa.P
open Go.RowKit Go.Proofs.YtnhogaelhggheaaW.PrintWords Go.Proofs.YtnhogaelhggheaaW.PrintLast Go.Proofs.YtnhogaelhggheaaW.PrintMore
attribute [local go_sem] max2_int min2_int max_two min_two max_three min_three max_four min_four   -- for this text's walks alone
set_option linter.unusedVariables false
set_option linter.unusedSimpArgs false

attribute [local go_sem high] eqA31
/-! ### greenscreenlaw09_HeaderBytes: function 3 -/
mutual
def greenscreenlaw09_HeaderBytes.j0 : Nat → List Int → Int → List Int → Bool → Int → Int → Int → Int → Option (Bool)
  | 0, _, _, _, _, _, _, _, _ => none
  | k + 1, x0, x2, x3, x32, x258000, x258001, x258002, x258003 => if x32 = true then (some true) else ((header_Parse.f x0).bind fun bt259 => ((greenscreenref09_Parse.f x0).bind fun bt268 => ((header_Answer.f k x258000 x258001 x258002 x258003 x2).bind fun bt277 => ((greenscreenlaw09_as.f x258000 x258001 x258002 x258003).bind fun bt281 => ((greenscreenref09_Answer.f k bt281.1 bt281.2.1 bt281.2.2.1 bt281.2.2.2 x2).bind fun bt285 => ((header_Sense.f x258000 x258001 x258002 x258003 x3).bind fun bt289 => (if x258000 = 2 then (if x258002 < 2 then (greenscreenlaw09_HeaderBytes.j1 k x2 x3 bt259.2.2.2.2.1 bt259.2.2.2.2.2 bt268.2.2.2.2.1 bt268.2.2.2.2.2 bt277.1 bt277.2 bt285.1 bt285.2 bt289.1 bt289.2.1 bt289.2.2 ((x3.length : Int) == 1) x258000 x258001 x258002 x258003 bt259.1 bt259.2.1 bt259.2.2.1 bt259.2.2.2.1 bt268.1 bt268.2.1 bt268.2.2.1 bt268.2.2.2.1) else (greenscreenlaw09_HeaderBytes.j1 k x2 x3 bt259.2.2.2.2.1 bt259.2.2.2.2.2 bt268.2.2.2.2.1 bt268.2.2.2.2.2 bt277.1 bt277.2 bt285.1 bt285.2 bt289.1 bt289.2.1 bt289.2.2 false x258000 x258001 x258002 x258003 bt259.1 bt259.2.1 bt259.2.2.1 bt259.2.2.2.1 bt268.1 bt268.2.1 bt268.2.2.1 bt268.2.2.2.1)) else (greenscreenlaw09_HeaderBytes.j1 k x2 x3 bt259.2.2.2.2.1 bt259.2.2.2.2.2 bt268.2.2.2.2.1 bt268.2.2.2.2.2 bt277.1 bt277.2 bt285.1 bt285.2 bt289.1 bt289.2.1 bt289.2.2 false x258000 x258001 x258002 x258003 bt259.1 bt259.2.1 bt259.2.2.1 bt259.2.2.2.1 bt268.1 bt268.2.1 bt268.2.2.1 bt268.2.2.2.1))))))))
def greenscreenlaw09_HeaderBytes.j1 : Nat → Int → List Int → List Int → Int → List Int → Int → List Int → Bool → List Int → Bool → Int → Bool → Bool → Bool → Int → Int → Int → Int → Int → Int → Int → Int → Int → Int → Int → Int → Option (Bool)
  | 0, _, _, _, _, _, _, _, _, _, _, _, _, _, _, _, _, _, _, _, _, _, _, _, _, _, _ => none
  | k + 1, x2, x3, x10, x11, x13, x14, x15, x16, x17, x18, x19, x20, x21, x22, x258000, x258001, x258002, x258003, x268000, x268001, x268002, x268003, x277000, x277001, x277002, x277003 => if (x21 != x22) = true then (greenscreenlaw09_HeaderBytes.j2 k x2 x3 x10 x11 x13 x14 x15 x16 x17 x18 true x258000 x258001 x258002 x258003 x268000 x268001 x268002 x268003 x277000 x277001 x277002 x277003) else (if x21 = true then (if 0 < (x3.length : Int) then (if x19 = (rd x3 0) then (if (x20 != (x258002 == 0)) = true then (greenscreenlaw09_HeaderBytes.j2 k x2 x3 x10 x11 x13 x14 x15 x16 x17 x18 true x258000 x258001 x258002 x258003 x268000 x268001 x268002 x268003 x277000 x277001 x277002 x277003) else (greenscreenlaw09_HeaderBytes.j2 k x2 x3 x10 x11 x13 x14 x15 x16 x17 x18 false x258000 x258001 x258002 x258003 x268000 x268001 x268002 x268003 x277000 x277001 x277002 x277003)) else (greenscreenlaw09_HeaderBytes.j2 k x2 x3 x10 x11 x13 x14 x15 x16 x17 x18 true x258000 x258001 x258002 x258003 x268000 x268001 x268002 x268003 x277000 x277001 x277002 x277003)) else (none)) else (if x19 = 0 then (greenscreenlaw09_HeaderBytes.j2 k x2 x3 x10 x11 x13 x14 x15 x16 x17 x18 x20 x258000 x258001 x258002 x258003 x268000 x268001 x268002 x268003 x277000 x277001 x277002 x277003) else (greenscreenlaw09_HeaderBytes.j2 k x2 x3 x10 x11 x13 x14 x15 x16 x17 x18 true x258000 x258001 x258002 x258003 x268000 x268001 x268002 x268003 x277000 x277001 x277002 x277003)))
def greenscreenlaw09_HeaderBytes.j2 : Nat → Int → List Int → List Int → Int → List Int → Int → List Int → Bool → List Int → Bool → Bool → Int → Int → Int → Int → Int → Int → Int → Int → Int → Int → Int → Int → Option (Bool)
  | 0, _, _, _, _, _, _, _, _, _, _, _, _, _, _, _, _, _, _, _, _, _, _, _ => none
  | k + 1, x2, x3, x10, x11, x13, x14, x15, x16, x17, x18, x108, x258000, x258001, x258002, x258003, x268000, x268001, x268002, x268003, x277000, x277001, x277002, x277003 => if x108 = true then (some false) else (if x11 = x14 then ((greenscreenlaw09_as.f x268000 x268001 x268002 x268003).bind fun bt293 => (if (bt293.1 == x277000 && (bt293.2.1 == x277001 && (bt293.2.2.1 == x277002 && (bt293.2.2.2 == x277003)))) = true then ((greenscreenref01_Same.f k x10 x13).bind fun t297 => (if t297 = true then (if (x16 == x18) = true then ((greenscreenref01_Same.f k x15 x17).bind fun t298 => (if t298 = true then ((header_Code.f x2).bind fun t299 => ((greenscreenref09_Code.f x2).bind fun t300 => (if t299 = t300 then ((header_Write.f x258000 x258001 x258002 x258003 x3).bind fun t301 => ((greenscreenlaw09_as.f x258000 x258001 x258002 x258003).bind fun bt304 => ((greenscreenref09_Write.f k bt304.1 bt304.2.1 bt304.2.2.1 bt304.2.2.2 x3).bind fun t308 => ((greenscreenref01_Same.f k t301 t308).bind fun t311 => (some t311))))) else (some false)))) else (some false))) else (some false)) else (some false))) else (some false))) else (some false))
end
def greenscreenlaw09_HeaderBytes.f (k : Nat) (l0 : List Int) (a1_0 : Int) (a1_1 : Int) (a1_2 : Int) (a1_3 : Int) (a2 : Int) (l3 : List Int) : Option (Bool) := (greenscreenlaw09_alive.f k).bind fun t258 => (if t258 = true then (if (l0.length : Int) > 300 then (greenscreenlaw09_HeaderBytes.j0 k l0 a2 l3 true a1_0 a1_1 a1_2 a1_3) else (greenscreenlaw09_HeaderBytes.j0 k l0 a2 l3 (decide ((l3.length : Int) > 300)) a1_0 a1_1 a1_2 a1_3)) else (some false))
theorem greenscreenlaw09_HeaderBytes.mono_l : ∀ k, (∀ y0 y1 y2 y3 y4 y5 y6 y7, LeO (greenscreenlaw09_HeaderBytes.j0 k y0 y1 y2 y3 y4 y5 y6 y7) (greenscreenlaw09_HeaderBytes.j0 (k + 1) y0 y1 y2 y3 y4 y5 y6 y7)) ∧ (∀ y0 y1 y2 y3 y4 y5 y6 y7 y8 y9 y10 y11 y12 y13 y14 y15 y16 y17 y18 y19 y20 y21 y22 y23 y24 y25, LeO (greenscreenlaw09_HeaderBytes.j1 k y0 y1 y2 y3 y4 y5 y6 y7 y8 y9 y10 y11 y12 y13 y14 y15 y16 y17 y18 y19 y20 y21 y22 y23 y24 y25) (greenscreenlaw09_HeaderBytes.j1 (k + 1) y0 y1 y2 y3 y4 y5 y6 y7 y8 y9 y10 y11 y12 y13 y14 y15 y16 y17 y18 y19 y20 y21 y22 y23 y24 y25)) ∧ (∀ y0 y1 y2 y3 y4 y5 y6 y7 y8 y9 y10 y11 y12 y13 y14 y15 y16 y17 y18 y19 y20 y21 y22, LeO (greenscreenlaw09_HeaderBytes.j2 k y0 y1 y2 y3 y4 y5 y6 y7 y8 y9 y10 y11 y12 y13 y14 y15 y16 y17 y18 y19 y20 y21 y22) (greenscreenlaw09_HeaderBytes.j2 (k + 1) y0 y1 y2 y3 y4 y5 y6 y7 y8 y9 y10 y11 y12 y13 y14 y15 y16 y17 y18 y19 y20 y21 y22))
  | 0 => ⟨fun _ _ _ _ _ _ _ _ r h => by simp [greenscreenlaw09_HeaderBytes.j0] at h, fun _ _ _ _ _ _ _ _ _ _ _ _ _ _ _ _ _ _ _ _ _ _ _ _ _ _ r h => by simp [greenscreenlaw09_HeaderBytes.j1] at h, fun _ _ _ _ _ _ _ _ _ _ _ _ _ _ _ _ _ _ _ _ _ _ _ r h => by simp [greenscreenlaw09_HeaderBytes.j2] at h⟩
  | k + 1 => by
    obtain ⟨ih0, ih1, ih2⟩ := greenscreenlaw09_HeaderBytes.mono_l k
    refine ⟨?_, ?_, ?_⟩
    · intro y0 y1 y2 y3 y4 y5 y6 y7
      unfold greenscreenlaw09_HeaderBytes.j0
      repeat' first
      | (with_reducible exact ih0 _ _ _ _ _ _ _ _)
      | (with_reducible exact ih1 _ _ _ _ _ _ _ _ _ _ _ _ _ _ _ _ _ _ _ _ _ _ _ _ _ _)
      | (with_reducible exact ih2 _ _ _ _ _ _ _ _ _ _ _ _ _ _ _ _ _ _ _ _ _ _ _)
      | (with_reducible exact greenscreenlaw09_alive.mono _)
      | (with_reducible exact greenscreenref01_Same.mono _ _ _)
      | (with_reducible exact greenscreenref09_Answer.mono _ _ _ _ _ _)
      | (with_reducible exact greenscreenref09_Write.mono _ _ _ _ _ _)
      | (with_reducible exact header_Answer.mono _ _ _ _ _ _)
      | (with_reducible exact LeO.refl _)
      | (with_reducible exact LeO.none _)
      | (with_reducible refine LeO.ite ?_ ?_)
      | (with_reducible refine LeO.bind ?_ (fun _ => ?_))
      | exact ih0 _ _ _ _ _ _ _ _
      | exact ih1 _ _ _ _ _ _ _ _ _ _ _ _ _ _ _ _ _ _ _ _ _ _ _ _ _ _
      | exact ih2 _ _ _ _ _ _ _ _ _ _ _ _ _ _ _ _ _ _ _ _ _ _ _
      | exact greenscreenlaw09_alive.mono _
      | exact greenscreenref01_Same.mono _ _ _
      | exact greenscreenref09_Answer.mono _ _ _ _ _ _
      | exact greenscreenref09_Write.mono _ _ _ _ _ _
      | exact header_Answer.mono _ _ _ _ _ _
      | exact LeO.none _
      | refine LeO.ite ?_ ?_
      | refine LeO.bind ?_ (fun _ => ?_)
    · intro y0 y1 y2 y3 y4 y5 y6 y7 y8 y9 y10 y11 y12 y13 y14 y15 y16 y17 y18 y19 y20 y21 y22 y23 y24 y25
      unfold greenscreenlaw09_HeaderBytes.j1
      repeat' first
      | (with_reducible exact ih0 _ _ _ _ _ _ _ _)
      | (with_reducible exact ih1 _ _ _ _ _ _ _ _ _ _ _ _ _ _ _ _ _ _ _ _ _ _ _ _ _ _)
      | (with_reducible exact ih2 _ _ _ _ _ _ _ _ _ _ _ _ _ _ _ _ _ _ _ _ _ _ _)
      | (with_reducible exact greenscreenlaw09_alive.mono _)
      | (with_reducible exact greenscreenref01_Same.mono _ _ _)
      | (with_reducible exact greenscreenref09_Answer.mono _ _ _ _ _ _)
      | (with_reducible exact greenscreenref09_Write.mono _ _ _ _ _ _)
      | (with_reducible exact header_Answer.mono _ _ _ _ _ _)
      | (with_reducible exact LeO.refl _)
      | (with_reducible exact LeO.none _)
      | (with_reducible refine LeO.ite ?_ ?_)
      | (with_reducible refine LeO.bind ?_ (fun _ => ?_))
      | exact ih0 _ _ _ _ _ _ _ _
      | exact ih1 _ _ _ _ _ _ _ _ _ _ _ _ _ _ _ _ _ _ _ _ _ _ _ _ _ _
      | exact ih2 _ _ _ _ _ _ _ _ _ _ _ _ _ _ _ _ _ _ _ _ _ _ _
      | exact greenscreenlaw09_alive.mono _
      | exact greenscreenref01_Same.mono _ _ _
      | exact greenscreenref09_Answer.mono _ _ _ _ _ _
      | exact greenscreenref09_Write.mono _ _ _ _ _ _
      | exact header_Answer.mono _ _ _ _ _ _
      | exact LeO.none _
      | refine LeO.ite ?_ ?_
      | refine LeO.bind ?_ (fun _ => ?_)
    · intro y0 y1 y2 y3 y4 y5 y6 y7 y8 y9 y10 y11 y12 y13 y14 y15 y16 y17 y18 y19 y20 y21 y22
      unfold greenscreenlaw09_HeaderBytes.j2
      repeat' first
      | (with_reducible exact ih0 _ _ _ _ _ _ _ _)
      | (with_reducible exact ih1 _ _ _ _ _ _ _ _ _ _ _ _ _ _ _ _ _ _ _ _ _ _ _ _ _ _)
      | (with_reducible exact ih2 _ _ _ _ _ _ _ _ _ _ _ _ _ _ _ _ _ _ _ _ _ _ _)
      | (with_reducible exact greenscreenlaw09_alive.mono _)
      | (with_reducible exact greenscreenref01_Same.mono _ _ _)
      | (with_reducible exact greenscreenref09_Answer.mono _ _ _ _ _ _)
      | (with_reducible exact greenscreenref09_Write.mono _ _ _ _ _ _)
      | (with_reducible exact header_Answer.mono _ _ _ _ _ _)
      | (with_reducible exact LeO.refl _)
      | (with_reducible exact LeO.none _)
      | (with_reducible refine LeO.ite ?_ ?_)
      | (with_reducible refine LeO.bind ?_ (fun _ => ?_))
      | exact ih0 _ _ _ _ _ _ _ _
      | exact ih1 _ _ _ _ _ _ _ _ _ _ _ _ _ _ _ _ _ _ _ _ _ _ _ _ _ _
      | exact ih2 _ _ _ _ _ _ _ _ _ _ _ _ _ _ _ _ _ _ _ _ _ _ _
      | exact greenscreenlaw09_alive.mono _
      | exact greenscreenref01_Same.mono _ _ _
      | exact greenscreenref09_Answer.mono _ _ _ _ _ _
      | exact greenscreenref09_Write.mono _ _ _ _ _ _
      | exact header_Answer.mono _ _ _ _ _ _
      | exact LeO.none _
      | refine LeO.ite ?_ ?_
      | refine LeO.bind ?_ (fun _ => ?_)
theorem greenscreenlaw09_HeaderBytes.mono : ∀ a0 a1 a2 a3 a4 a5 a6 k, LeO (greenscreenlaw09_HeaderBytes.f k a0 a1 a2 a3 a4 a5 a6) (greenscreenlaw09_HeaderBytes.f (k + 1) a0 a1 a2 a3 a4 a5 a6) := by
  intro a0 a1 a2 a3 a4 a5 a6 k
  obtain ⟨ih0, ih1, ih2⟩ := greenscreenlaw09_HeaderBytes.mono_l k
  unfold greenscreenlaw09_HeaderBytes.f
  repeat' first
      | (with_reducible exact ih0 _ _ _ _ _ _ _ _)
      | (with_reducible exact ih1 _ _ _ _ _ _ _ _ _ _ _ _ _ _ _ _ _ _ _ _ _ _ _ _ _ _)
      | (with_reducible exact ih2 _ _ _ _ _ _ _ _ _ _ _ _ _ _ _ _ _ _ _ _ _ _ _)
      | (with_reducible exact greenscreenlaw09_alive.mono _)
      | (with_reducible exact greenscreenref01_Same.mono _ _ _)
      | (with_reducible exact greenscreenref09_Answer.mono _ _ _ _ _ _)
      | (with_reducible exact greenscreenref09_Write.mono _ _ _ _ _ _)
      | (with_reducible exact header_Answer.mono _ _ _ _ _ _)
      | (with_reducible exact LeO.refl _)
      | (with_reducible exact LeO.none _)
      | (with_reducible refine LeO.ite ?_ ?_)
      | (with_reducible refine LeO.bind ?_ (fun _ => ?_))
      | exact ih0 _ _ _ _ _ _ _ _
      | exact ih1 _ _ _ _ _ _ _ _ _ _ _ _ _ _ _ _ _ _ _ _ _ _ _ _ _ _
      | exact ih2 _ _ _ _ _ _ _ _ _ _ _ _ _ _ _ _ _ _ _ _ _ _ _
      | exact greenscreenlaw09_alive.mono _
      | exact greenscreenref01_Same.mono _ _ _
      | exact greenscreenref09_Answer.mono _ _ _ _ _ _
      | exact greenscreenref09_Write.mono _ _ _ _ _ _
      | exact header_Answer.mono _ _ _ _ _ _
      | exact LeO.none _
      | refine LeO.ite ?_ ?_
      | refine LeO.bind ?_ (fun _ => ?_)
def greenscreenlaw09_HeaderBytes.T13 : Bool × List (List Nat × List Nat) := (true, [([], []), ([], []), ([0, 1], [0, 1]), ([2], [2]), ([3], [3]), ([4, 3, 3], [3, 4]), ([3], [3]), ([5, 6, 3], [3, 5, 6]), ([3, 7], [3, 7]), ([8, 5], [8]), ([9], [9]), ([9], [9]), ([10, 11, 9, 9], [9, 10, 11]), ([9, 12], [9, 12]), ([13, 12], [13]), ([14], [14]), ([14], [14]), ([15, 16, 14], [14, 15, 16]), ([14, 17], [14, 17]), ([18, 14], [18]), ([19], [19]), ([19], [19]), ([20, 21, 19, 19], [19, 20, 21]), ([19, 22], [19, 22]), ([23, 22], [23]), ([24], [24]), ([25, 24, 24], [24, 25]), ([24], [24]), ([27, 26, 24], [24, 27]), ([26, 28, 24], [24, 26, 28]), ([24, 29], [24, 29]), ([30, 28], [30]), ([31], [31]), ([31], [31]), ([32, 33, 31, 31], [31, 32, 33]), ([31], [31]), ([35, 34, 31], [31, 35]), ([31], [31]), ([36, 37, 36, 31], [31, 36, 37]), ([34, 38, 38, 31], [31, 34, 38]), ([31, 39], [31, 39]), ([40, 39, 0, 1, 2, 3, 4, 5, 6, 7, 8, 9, 10, 11, 12, 13, 14, 15, 16, 17, 18, 19, 20, 21, 22, 23, 24, 25, 26, 27, 28, 29, 30, 31, 32, 33, 34, 35, 36, 37, 38, 39, 40], [40])])
def greenscreenlaw09_HeaderBytes.B13 : List Nat := [0, 0, 3, 7, 15, 31, 15, 127, 255, 511, 1023, 1023, 4095, 8191, 16383, 32767, 32767, 131071, 262143, 524287, 1048575, 1048575, 4194303, 8388607, 16777215, 33554431, 67108863, 33554431, 268435455, 536870911, 1073741823, 2147483647, 4294967295, 4294967295, 17179869183, 4294967295, 68719476735, 4294967295, 274877906943, 549755813887, 1099511627775, 2199023255551]
theorem greenscreenlaw09_HeaderBytes.tab13 : rtab .any (opsOf Try.f3 13) = greenscreenlaw09_HeaderBytes.T13 := by kernel_rfl
theorem greenscreenlaw09_HeaderBytes.bits13 : waitsOk greenscreenlaw09_HeaderBytes.T13.2 greenscreenlaw09_HeaderBytes.B13 = true := by kernel_rfl
set_option maxHeartbeats 8000000 in
set_option maxRecDepth 100000 in
theorem greenscreenlaw09_HeaderBytes.calls (k : Nat) (A0 : Option Addr) (c0 : Nat) (l0 : List Int) (a1_0 : Int) (a1_1 : Int) (a1_2 : Int) (a1_3 : Int) (a2 : Int) (A3 : Option Addr) (c3 : Nat) (l3 : List Int) (r : Bool) (hr_ : r = true) (w : World) (hr0 : Kd.C (Kd.int .u8) w A0 l0.length l0) (hc0 : l0.length ≤ c0) (hr3 : Kd.C (Kd.int .u8) w A3 l3.length l3) (hc3 : l3.length ≤ c3) (h : greenscreenlaw09_HeaderBytes.f k l0 a1_0 a1_1 a1_2 a1_3 a2 l3 = some r) :
    Calls Try.prog 3 #[.slice A0 l0.length c0, .agg #[.int .u8 a1_0, .int .u8 a1_1, .int .u8 a1_2, .int .u16 a1_3], .int .i64 a2, .slice A3 l3.length c3] w fun e w' => e = .returned (.bool r) ∧ Below w.heap.size w w' := by
  have hu25 := Try.underlying25
  have hu31 := Try.underlying31
  have HR0 := Aside0.mk hr0
  have HC0 := Aside0.mk hc0
  clear hr0 hc0
  have HR3 := Aside0.mk hr3
  have HC3 := Aside0.mk hc3
  clear hr3 hc3
  have HB := Aside0.mk (Below.refl w.heap.size w)
  have H : ((greenscreenlaw09_alive.f k).bind fun t258 => (if t258 = true then (if (l0.length : Int) > 300 then (greenscreenlaw09_HeaderBytes.j0 k l0 a2 l3 true a1_0 a1_1 a1_2 a1_3) else (greenscreenlaw09_HeaderBytes.j0 k l0 a2 l3 (decide ((l3.length : Int) > 300)) a1_0 a1_1 a1_2 a1_3)) else (some false))) = some r := h
  clear h
  replace H := Option.bind_eq_some_iff.mp H
  obtain ⟨t258, A50, H⟩ := H
  replace H : (if t258 = true then (if (l0.length : Int) > 300 then (greenscreenlaw09_HeaderBytes.j0 k l0 a2 l3 true a1_0 a1_1 a1_2 a1_3) else (greenscreenlaw09_HeaderBytes.j0 k l0 a2 l3 (decide ((l3.length : Int) > 300)) a1_0 a1_1 a1_2 a1_3)) else (some false)) = some r := H
  have A5 := Aside0.mk A50
  clear A50
  by_cases c6 : t258 = true
  · subst c6
    have H1 : (if (l0.length : Int) > 300 then (greenscreenlaw09_HeaderBytes.j0 k l0 a2 l3 true a1_0 a1_1 a1_2 a1_3) else (greenscreenlaw09_HeaderBytes.j0 k l0 a2 l3 (decide ((l3.length : Int) > 300)) a1_0 a1_1 a1_2 a1_3)) = some r := by rw [if_pos rfl] at H; exact H
    clear H
    have H := H1
    clear H1
    have HC7 := Aside0.mk H
    clear H
    go_enter Try.func3, Try.ntmps3
    go_upto_region 3 with (first | ((with_reducible refine gate_dst (N := 5) rfl ?_); (try (refine gate_guard (by rfl) ?_; dsimp only)); refine box_event ?hg (N := 5) ?hd (cs := #[.int .u8 a1_0, .int .u8 a1_1, .int .u8 a1_2, .int .u16 a1_3]) (t := 25) ?hr ?_; (case hd => rfl); (case hg => rfl); (case hr => first | (go_simp; done) | (go_simp; rfl)); intro gb257 hg w8 hbox hb; have n0_ := Aside0.mk (below_step (by repeat (first | (with_reducible first | exact HB.out | apply below_alloc | apply pw_below_drewN | apply below_drew1) | exact HB.out)) hb); have n1_ := Aside0.mk (hbox); have n2_ := Aside0.mk ((by rw [hg]; exact (below_size (by repeat (first | (with_reducible first | exact HB.out | apply below_alloc | apply pw_below_drewN | apply below_drew1) | exact HB.out))) : w.heap.size ≤ gb257)); have n3_ := Aside0.mk ((by rw [hg]; exact (below_size (by repeat (first | (with_reducible first | exact HB.out | apply below_alloc | apply pw_below_drewN | apply below_drew1) | exact HB.out))) : w.heap.size ≤ gb257)); clear HB; have HB := n0_; have BK257 := n1_; have GW257 := n2_; have GE257 := n3_; clear n0_ n1_ n2_ n3_; clear hb hbox hg) | ((with_reducible refine gate_callee (f := 7) rfl ?_); refine goesL_ (some 23) rfl rfl Try.func7 (by kernel_rfl) rfl #[] rfl (by (try simp only [List.map_toArray, List.map_cons, List.map_nil]); first | done | rfl | (simp only [List.length_drop, List.length_take]; rfl)) ?_; (with_reducible refine (greenscreenlaw09_alive.calls k  true rfl _ A5.out).mono ?_); rintro e w9 ⟨rfl, hb⟩; refine ⟨_, rfl, ?_⟩; have n0_ := Aside0.mk (blk_below (g := gb257) (o := .cells #[.int .u8 a1_0, .int .u8 a1_1, .int .u8 a1_2, .int .u16 a1_3] 25 (0, 0)) (by (with_reducible repeat (first | refine blk_drewN ?_ _ | refine blk_drew ?_ | refine blk_alloc ?_ _)); exact BK257.out) hb); have n1_ := Aside0.mk (below_step (by repeat (first | (with_reducible first | exact HB.out | apply below_alloc | apply pw_below_drewN | apply below_drew1 | refine below_set ?_ GE257.out) | exact HB.out)) hb); clear BK257; clear HB; have BK257 := n0_; have HB := n1_; clear n0_ n1_; (try clear hb); (try clear hb2); (try clear hk); (try clear hi)))
    (try simp only [Act.put, List.setIfInBounds_toArray, List.set_cons_zero, List.set_cons_succ])
    go_cut [32] (fun v32 wc => ∃ (kq : Nat) (x32_6 : Bool), v32 = .bool x32_6 ∧ Aside0 (greenscreenlaw09_HeaderBytes.j0 kq l0 a2 l3 x32_6 a1_0 a1_1 a1_2 a1_3 = some r) ∧ Aside0 (kq ≤ k) ∧ Aside0 (wc.heap[gb257]? = some (.cells #[.int .u8 a1_0, .int .u8 a1_1, .int .u8 a1_2, .int .u16 a1_3] 25 (0, 0))) ∧ Aside0 (Below w.heap.size w wc))
    case first =>
      have H := HC7.out
      clear HC7
      by_cases c10 : (l0.length : Int) > 300
      · rw [if_pos c10] at H
        have c10b0 : decide (300 < (l0.length : Int)) = true := decide_eq_true c10
        have c10b1 : decide (300 < l0.length) = true := decide_eq_true (by omega)
        clear c10
        (first | rw [c10b0] | (simp only [i64_w, i32_w]; rw [c10b0]) | skip)
        have H' := Aside0.mk H
        clear H
        go_wp2
        go_meet
        case rel => exact ⟨_, (true), (by first | rfl | (simp; done) | (simp [*]; done)), H', ⟨by first | omega | exact Nat.le_refl _⟩, ⟨by (with_reducible repeat (first | refine blk_drewN ?_ _ | refine blk_drew ?_ | refine blk_alloc ?_ _)); exact BK257.out⟩, ⟨by repeat (first | (with_reducible first | exact HB.out | apply below_alloc | apply pw_below_drewN | apply below_drew1 | refine below_set ?_ GE257.out) | exact HB.out)⟩⟩
      · rw [if_neg c10] at H
        have c10b0 : decide (300 < (l0.length : Int)) = false := decide_eq_false c10
        have c10b1 : decide (300 < l0.length) = false := decide_eq_false (by omega)
        clear c10
        (first | rw [c10b0] | (simp only [i64_w, i32_w]; rw [c10b0]) | skip)
        have H' := Aside0.mk H
        clear H
        go_wp2
        go_meet
        case rel => exact ⟨_, (decide ((l3.length : Int) > 300)), (by first | rfl | (simp; done) | (simp [*]; done)), H', ⟨by first | omega | exact Nat.le_refl _⟩, ⟨by (with_reducible repeat (first | refine blk_drewN ?_ _ | refine blk_drew ?_ | refine blk_alloc ?_ _)); exact BK257.out⟩, ⟨by repeat (first | (with_reducible first | exact HB.out | apply below_alloc | apply pw_below_drewN | apply below_drew1 | refine below_set ?_ GE257.out) | exact HB.out)⟩⟩
    case rest =>
      clear HC7
      try clear c1
      try clear p2
      try clear c3
      try clear c6
      try clear c7
      try clear c10
      try clear c10b0
      try clear c10b1
      obtain ⟨kq, x32_6, rfl, HA, HJ6, BK257, HB⟩ := hcut
      cases kq with
      | zero => exact absurd HA.out (by simp [greenscreenlaw09_HeaderBytes.j0])
      | succ kj6 =>
        have H := HA.out
        clear HA
        simp only [greenscreenlaw09_HeaderBytes.j0] at H
        by_cases c11 : x32_6 = true
        · subst c11
          have H1 : (some true) = some r := by rw [if_pos rfl] at H; exact H
          clear H
          have H := H1
          clear H1
          obtain rfl := Option.some.inj H
          go_wp2
          go_ret
          exact ⟨by first | rfl | (simp [errW_none, errW_some] <;> rfl) | (simp [*, errW_none, errW_some] <;> rfl), by repeat (first | (with_reducible first | exact HB.out | apply below_alloc | apply pw_below_drewN | apply below_drew1 | refine below_set ?_ GE257.out) | exact HB.out)⟩
        · replace c11 := Bool.eq_false_iff.mpr c11
          subst c11
          have H1 : ((header_Parse.f l0).bind fun bt259 => ((greenscreenref09_Parse.f l0).bind fun bt268 => ((header_Answer.f kj6 a1_0 a1_1 a1_2 a1_3 a2).bind fun bt277 => ((greenscreenlaw09_as.f a1_0 a1_1 a1_2 a1_3).bind fun bt281 => ((greenscreenref09_Answer.f kj6 bt281.1 bt281.2.1 bt281.2.2.1 bt281.2.2.2 a2).bind fun bt285 => ((header_Sense.f a1_0 a1_1 a1_2 a1_3 l3).bind fun bt289 => (if a1_0 = 2 then (if a1_2 < 2 then (greenscreenlaw09_HeaderBytes.j1 kj6 a2 l3 bt259.2.2.2.2.1 bt259.2.2.2.2.2 bt268.2.2.2.2.1 bt268.2.2.2.2.2 bt277.1 bt277.2 bt285.1 bt285.2 bt289.1 bt289.2.1 bt289.2.2 ((l3.length : Int) == 1) a1_0 a1_1 a1_2 a1_3 bt259.1 bt259.2.1 bt259.2.2.1 bt259.2.2.2.1 bt268.1 bt268.2.1 bt268.2.2.1 bt268.2.2.2.1) else (greenscreenlaw09_HeaderBytes.j1 kj6 a2 l3 bt259.2.2.2.2.1 bt259.2.2.2.2.2 bt268.2.2.2.2.1 bt268.2.2.2.2.2 bt277.1 bt277.2 bt285.1 bt285.2 bt289.1 bt289.2.1 bt289.2.2 false a1_0 a1_1 a1_2 a1_3 bt259.1 bt259.2.1 bt259.2.2.1 bt259.2.2.2.1 bt268.1 bt268.2.1 bt268.2.2.1 bt268.2.2.2.1)) else (greenscreenlaw09_HeaderBytes.j1 kj6 a2 l3 bt259.2.2.2.2.1 bt259.2.2.2.2.2 bt268.2.2.2.2.1 bt268.2.2.2.2.2 bt277.1 bt277.2 bt285.1 bt285.2 bt289.1 bt289.2.1 bt289.2.2 false a1_0 a1_1 a1_2 a1_3 bt259.1 bt259.2.1 bt259.2.2.1 bt259.2.2.2.1 bt268.1 bt268.2.1 bt268.2.2.1 bt268.2.2.2.1)))))))) = some r := by rw [if_neg (show ¬ (false = true) by decide)] at H; exact H
          clear H
          have H := H1
          clear H1
          replace H := Option.bind_eq_some_iff.mp H
          obtain ⟨⟨t259, t260, t261, t262, t263, t266⟩, A120, H⟩ := H
          replace H : ((greenscreenref09_Parse.f l0).bind fun bt268 => ((header_Answer.f kj6 a1_0 a1_1 a1_2 a1_3 a2).bind fun bt277 => ((greenscreenlaw09_as.f a1_0 a1_1 a1_2 a1_3).bind fun bt281 => ((greenscreenref09_Answer.f kj6 bt281.1 bt281.2.1 bt281.2.2.1 bt281.2.2.2 a2).bind fun bt285 => ((header_Sense.f a1_0 a1_1 a1_2 a1_3 l3).bind fun bt289 => (if a1_0 = 2 then (if a1_2 < 2 then (greenscreenlaw09_HeaderBytes.j1 kj6 a2 l3 t263 t266 bt268.2.2.2.2.1 bt268.2.2.2.2.2 bt277.1 bt277.2 bt285.1 bt285.2 bt289.1 bt289.2.1 bt289.2.2 ((l3.length : Int) == 1) a1_0 a1_1 a1_2 a1_3 t259 t260 t261 t262 bt268.1 bt268.2.1 bt268.2.2.1 bt268.2.2.2.1) else (greenscreenlaw09_HeaderBytes.j1 kj6 a2 l3 t263 t266 bt268.2.2.2.2.1 bt268.2.2.2.2.2 bt277.1 bt277.2 bt285.1 bt285.2 bt289.1 bt289.2.1 bt289.2.2 false a1_0 a1_1 a1_2 a1_3 t259 t260 t261 t262 bt268.1 bt268.2.1 bt268.2.2.1 bt268.2.2.2.1)) else (greenscreenlaw09_HeaderBytes.j1 kj6 a2 l3 t263 t266 bt268.2.2.2.2.1 bt268.2.2.2.2.2 bt277.1 bt277.2 bt285.1 bt285.2 bt289.1 bt289.2.1 bt289.2.2 false a1_0 a1_1 a1_2 a1_3 t259 t260 t261 t262 bt268.1 bt268.2.1 bt268.2.2.1 bt268.2.2.2.1))))))) = some r := H
          have A12 := Aside0.mk A120
          clear A120
          replace H := Option.bind_eq_some_iff.mp H
          obtain ⟨⟨t268, t269, t270, t271, t272, t275⟩, A130, H⟩ := H
          replace H : ((header_Answer.f kj6 a1_0 a1_1 a1_2 a1_3 a2).bind fun bt277 => ((greenscreenlaw09_as.f a1_0 a1_1 a1_2 a1_3).bind fun bt281 => ((greenscreenref09_Answer.f kj6 bt281.1 bt281.2.1 bt281.2.2.1 bt281.2.2.2 a2).bind fun bt285 => ((header_Sense.f a1_0 a1_1 a1_2 a1_3 l3).bind fun bt289 => (if a1_0 = 2 then (if a1_2 < 2 then (greenscreenlaw09_HeaderBytes.j1 kj6 a2 l3 t263 t266 t272 t275 bt277.1 bt277.2 bt285.1 bt285.2 bt289.1 bt289.2.1 bt289.2.2 ((l3.length : Int) == 1) a1_0 a1_1 a1_2 a1_3 t259 t260 t261 t262 t268 t269 t270 t271) else (greenscreenlaw09_HeaderBytes.j1 kj6 a2 l3 t263 t266 t272 t275 bt277.1 bt277.2 bt285.1 bt285.2 bt289.1 bt289.2.1 bt289.2.2 false a1_0 a1_1 a1_2 a1_3 t259 t260 t261 t262 t268 t269 t270 t271)) else (greenscreenlaw09_HeaderBytes.j1 kj6 a2 l3 t263 t266 t272 t275 bt277.1 bt277.2 bt285.1 bt285.2 bt289.1 bt289.2.1 bt289.2.2 false a1_0 a1_1 a1_2 a1_3 t259 t260 t261 t262 t268 t269 t270 t271)))))) = some r := H
          have A13 := Aside0.mk A130
          clear A130
          replace H := Option.bind_eq_some_iff.mp H
          obtain ⟨⟨t277, t280⟩, A140, H⟩ := H
          replace H : ((greenscreenlaw09_as.f a1_0 a1_1 a1_2 a1_3).bind fun bt281 => ((greenscreenref09_Answer.f kj6 bt281.1 bt281.2.1 bt281.2.2.1 bt281.2.2.2 a2).bind fun bt285 => ((header_Sense.f a1_0 a1_1 a1_2 a1_3 l3).bind fun bt289 => (if a1_0 = 2 then (if a1_2 < 2 then (greenscreenlaw09_HeaderBytes.j1 kj6 a2 l3 t263 t266 t272 t275 t277 t280 bt285.1 bt285.2 bt289.1 bt289.2.1 bt289.2.2 ((l3.length : Int) == 1) a1_0 a1_1 a1_2 a1_3 t259 t260 t261 t262 t268 t269 t270 t271) else (greenscreenlaw09_HeaderBytes.j1 kj6 a2 l3 t263 t266 t272 t275 t277 t280 bt285.1 bt285.2 bt289.1 bt289.2.1 bt289.2.2 false a1_0 a1_1 a1_2 a1_3 t259 t260 t261 t262 t268 t269 t270 t271)) else (greenscreenlaw09_HeaderBytes.j1 kj6 a2 l3 t263 t266 t272 t275 t277 t280 bt285.1 bt285.2 bt289.1 bt289.2.1 bt289.2.2 false a1_0 a1_1 a1_2 a1_3 t259 t260 t261 t262 t268 t269 t270 t271))))) = some r := H
          have A14 := Aside0.mk A140
          clear A140
          replace H := Option.bind_eq_some_iff.mp H
          obtain ⟨⟨t281, t282, t283, t284⟩, A150, H⟩ := H
          replace H : ((greenscreenref09_Answer.f kj6 t281 t282 t283 t284 a2).bind fun bt285 => ((header_Sense.f a1_0 a1_1 a1_2 a1_3 l3).bind fun bt289 => (if a1_0 = 2 then (if a1_2 < 2 then (greenscreenlaw09_HeaderBytes.j1 kj6 a2 l3 t263 t266 t272 t275 t277 t280 bt285.1 bt285.2 bt289.1 bt289.2.1 bt289.2.2 ((l3.length : Int) == 1) a1_0 a1_1 a1_2 a1_3 t259 t260 t261 t262 t268 t269 t270 t271) else (greenscreenlaw09_HeaderBytes.j1 kj6 a2 l3 t263 t266 t272 t275 t277 t280 bt285.1 bt285.2 bt289.1 bt289.2.1 bt289.2.2 false a1_0 a1_1 a1_2 a1_3 t259 t260 t261 t262 t268 t269 t270 t271)) else (greenscreenlaw09_HeaderBytes.j1 kj6 a2 l3 t263 t266 t272 t275 t277 t280 bt285.1 bt285.2 bt289.1 bt289.2.1 bt289.2.2 false a1_0 a1_1 a1_2 a1_3 t259 t260 t261 t262 t268 t269 t270 t271)))) = some r := H
          have A15 := Aside0.mk A150
          clear A150
          replace H := Option.bind_eq_some_iff.mp H
          obtain ⟨⟨t285, t288⟩, A160, H⟩ := H
          replace H : ((header_Sense.f a1_0 a1_1 a1_2 a1_3 l3).bind fun bt289 => (if a1_0 = 2 then (if a1_2 < 2 then (greenscreenlaw09_HeaderBytes.j1 kj6 a2 l3 t263 t266 t272 t275 t277 t280 t285 t288 bt289.1 bt289.2.1 bt289.2.2 ((l3.length : Int) == 1) a1_0 a1_1 a1_2 a1_3 t259 t260 t261 t262 t268 t269 t270 t271) else (greenscreenlaw09_HeaderBytes.j1 kj6 a2 l3 t263 t266 t272 t275 t277 t280 t285 t288 bt289.1 bt289.2.1 bt289.2.2 false a1_0 a1_1 a1_2 a1_3 t259 t260 t261 t262 t268 t269 t270 t271)) else (greenscreenlaw09_HeaderBytes.j1 kj6 a2 l3 t263 t266 t272 t275 t277 t280 t285 t288 bt289.1 bt289.2.1 bt289.2.2 false a1_0 a1_1 a1_2 a1_3 t259 t260 t261 t262 t268 t269 t270 t271))) = some r := H
          have A16 := Aside0.mk A160
          clear A160
          replace H := Option.bind_eq_some_iff.mp H
          obtain ⟨⟨t289, t290, t291⟩, A170, H⟩ := H
          replace H : (if a1_0 = 2 then (if a1_2 < 2 then (greenscreenlaw09_HeaderBytes.j1 kj6 a2 l3 t263 t266 t272 t275 t277 t280 t285 t288 t289 t290 t291 ((l3.length : Int) == 1) a1_0 a1_1 a1_2 a1_3 t259 t260 t261 t262 t268 t269 t270 t271) else (greenscreenlaw09_HeaderBytes.j1 kj6 a2 l3 t263 t266 t272 t275 t277 t280 t285 t288 t289 t290 t291 false a1_0 a1_1 a1_2 a1_3 t259 t260 t261 t262 t268 t269 t270 t271)) else (greenscreenlaw09_HeaderBytes.j1 kj6 a2 l3 t263 t266 t272 t275 t277 t280 t285 t288 t289 t290 t291 false a1_0 a1_1 a1_2 a1_3 t259 t260 t261 t262 t268 t269 t270 t271)) = some r := H
          have A17 := Aside0.mk A170
          clear A170
          have HC18 := Aside0.mk H
          clear H
          go_upto_region 10 with (first | ((with_reducible refine gate_callee (f := 8) rfl ?_); refine goesL_ (some 35) rfl rfl Try.func8 (by kernel_rfl) rfl #[.slice A0 l0.length c0] rfl (by (try simp only [List.map_toArray, List.map_cons, List.map_nil]); first | done | rfl | (simp only [List.length_drop, List.length_take]; rfl)) ?_; (with_reducible refine (header_Parse.calls _ _ l0 t259 t260 t261 t262 t263 t266 _ ?side1 ?side2 A12.out).mono ?_); (case side1 => repeat (first | exact (Kd.C_below HR0.out HB.out) | (with_reducible refine Kd.C_alloc ?_ _) | (with_reducible refine Kd.C_drewN ?_ _) | (with_reducible refine Kd.C_drew ?_))); (case side2 => exact HC0.out); rintro e w19 ⟨v264, rfl, ho0, hb⟩; refine ⟨_, rfl, ?_⟩; have n0_ := Aside0.mk (Kd.R_lower ho0 (below_size (by repeat (first | (with_reducible first | exact HB.out | apply below_alloc | apply pw_below_drewN | apply below_drew1 | refine below_set ?_ GE257.out) | exact HB.out)))); have n1_ := Aside0.mk (blk_below (g := gb257) (o := .cells #[.int .u8 a1_0, .int .u8 a1_1, .int .u8 a1_2, .int .u16 a1_3] 25 (0, 0)) (by (with_reducible repeat (first | refine blk_drewN ?_ _ | refine blk_drew ?_ | refine blk_alloc ?_ _)); exact BK257.out) hb); have n2_ := Aside0.mk (below_step (by repeat (first | (with_reducible first | exact HB.out | apply below_alloc | apply pw_below_drewN | apply below_drew1 | refine below_set ?_ GE257.out) | exact HB.out)) hb); clear BK257; clear HB; have HO265 := n0_; have BK257 := n1_; have HB := n2_; clear n0_ n1_ n2_; (try clear hb); (try clear hb2); (try clear hk); (try clear hi); (try clear ho0)) | ((with_reducible refine gate_dst (N := 9) rfl ?_); (try (refine gate_guard (by rfl) ?_; dsimp only)); refine box_event ?hg (N := 9) ?hd (cs := #[.int .u8 0, .int .u8 0, .int .u8 0, .int .u16 0]) (t := 25) ?hr ?_; (case hd => rfl); (case hg => rfl); (case hr => first | (go_simp; done) | (go_simp; rfl)); intro gb267 hg w20 hbox hb; have n0_ := Aside0.mk (Kd.R_below (by (with_reducible repeat (first | apply Kd.R_alloc | apply Kd.R_drewN | apply Kd.R_drew)); exact HO265.out) hb); have n1_ := Aside0.mk (blk_below (g := gb257) (o := .cells #[.int .u8 a1_0, .int .u8 a1_1, .int .u8 a1_2, .int .u16 a1_3] 25 (0, 0)) (by (with_reducible repeat (first | refine blk_drewN ?_ _ | refine blk_drew ?_ | refine blk_alloc ?_ _)); exact BK257.out) hb); have n2_ := Aside0.mk (below_step (by repeat (first | (with_reducible first | exact HB.out | apply below_alloc | apply pw_below_drewN | apply below_drew1 | refine below_set ?_ GE257.out) | exact HB.out)) hb); have n3_ := Aside0.mk (hbox); have n4_ := Aside0.mk ((by rw [hg]; exact (below_size (by repeat (first | (with_reducible first | exact HB.out | apply below_alloc | apply pw_below_drewN | apply below_drew1 | refine below_set ?_ GE257.out) | exact HB.out))) : w.heap.size ≤ gb267)); have n5_ := Aside0.mk ((by rw [hg]; exact (below_size (by repeat (first | (with_reducible first | exact HB.out | apply below_alloc | apply pw_below_drewN | apply below_drew1 | refine below_set ?_ GE257.out) | exact HB.out))) : w.heap.size ≤ gb267)); have n6_ := Aside0.mk ((by rw [hg]; exact Nat.ne_of_lt (blk_lt (g := gb257) (o := .cells #[.int .u8 a1_0, .int .u8 a1_1, .int .u8 a1_2, .int .u16 a1_3] 25 (0, 0)) (by (with_reducible repeat (first | refine blk_drewN ?_ _ | refine blk_drew ?_ | refine blk_alloc ?_ _)); exact BK257.out)) : gb257 ≠ gb267)); have n7_ := Aside0.mk ((by rw [hg]; exact Nat.ne_of_gt (blk_lt (g := gb257) (o := .cells #[.int .u8 a1_0, .int .u8 a1_1, .int .u8 a1_2, .int .u16 a1_3] 25 (0, 0)) (by (with_reducible repeat (first | refine blk_drewN ?_ _ | refine blk_drew ?_ | refine blk_alloc ?_ _)); exact BK257.out)) : gb267 ≠ gb257)); clear HO265; clear BK257; clear HB; have HO265 := n0_; have BK257 := n1_; have HB := n2_; have BK267 := n3_; have GW267 := n4_; have GE267 := n5_; have NB257_267 := n6_; have NB267_257 := n7_; clear n0_ n1_ n2_ n3_ n4_ n5_ n6_ n7_; clear hb hbox hg; have hnb21 := NB267_257.out; have hnc21 := NB257_267.out; have hcz22_0 : w20.cell? ⟨gb267, 0, none⟩ = some (.int .u8 0) := (blk_cell BK267.out 0).trans rfl; have hcz22_1 : w20.cell? ⟨gb267, 1, none⟩ = some (.int .u8 0) := (blk_cell BK267.out 1).trans rfl; have hcz22_2 : w20.cell? ⟨gb267, 2, none⟩ = some (.int .u8 0) := (blk_cell BK267.out 2).trans rfl; have hcz22_3 : w20.cell? ⟨gb267, 3, none⟩ = some (.int .u16 0) := (blk_cell BK267.out 3).trans rfl; have hfz22_0 := blk_frozen BK267.out 0; have hfz22_1 := blk_frozen BK267.out 1; have hfz22_2 := blk_frozen BK267.out 2; have hfz22_3 := blk_frozen BK267.out 3) | ((with_reducible refine gate_store (t := 25) (p := 9) rfl ?_); refine store_event (t := 25) (p := 9) (v := ?vo_w23) (w1 := ((((w20.setCell ⟨gb267, 0, none⟩ (.int .u8 t259)).setCell ⟨gb267, 1, none⟩ (.int .u8 t260)).setCell ⟨gb267, 2, none⟩ (.int .u8 t261)).setCell ⟨gb267, 3, none⟩ (.int .u16 t262))) ?hg ?ho ?hn ?hr ?_; (case ho => rfl); (case hg => rfl); (case hn => rfl); (case hr => first | (go_simp; done) | (go_simp; rfl)); intro w23 hw; have n0_ : Aside0 (Kd.R (Kd.int .u8) 5 w23 w.heap.size (fun _ => True) v264 t263) := ⟨(by rw [hw]; exact (by (with_reducible repeat (first | apply Kd.R_alloc | apply Kd.R_drewN | apply Kd.R_drew)); exact Kd.R_mono (Kd.R_far (p := ⟨gb267, 3, none⟩) (Kd.R_far (p := ⟨gb267, 2, none⟩) (Kd.R_far (p := ⟨gb267, 1, none⟩) (Kd.R_far (p := ⟨gb267, 0, none⟩) (Kd.R_types HO265.out BK267.out (by decide)) (fun _ hk => hk.2) (.int .u8 t259)) (fun _ hk => hk.2) (.int .u8 t260)) (fun _ hk => hk.2) (.int .u8 t261)) (fun _ hk => hk.2) (.int .u16 t262)) (fun _ hk => trivial)))⟩; have n1_ : Aside0 (w23.heap[gb257]? = some (.cells #[.int .u8 a1_0, .int .u8 a1_1, .int .u8 a1_2, .int .u16 a1_3] 25 (0, 0))) := ⟨(by rw [hw]; exact (by (with_reducible repeat (first | refine blk_drewN ?_ _ | refine blk_drew ?_ | refine blk_alloc ?_ _)); refine blk_far ?_ NB257_267.out _; (with_reducible repeat (first | refine blk_drewN ?_ _ | refine blk_drew ?_ | refine blk_alloc ?_ _)); refine blk_far ?_ NB257_267.out _; (with_reducible repeat (first | refine blk_drewN ?_ _ | refine blk_drew ?_ | refine blk_alloc ?_ _)); refine blk_far ?_ NB257_267.out _; (with_reducible repeat (first | refine blk_drewN ?_ _ | refine blk_drew ?_ | refine blk_alloc ?_ _)); refine blk_far ?_ NB257_267.out _; (with_reducible repeat (first | refine blk_drewN ?_ _ | refine blk_drew ?_ | refine blk_alloc ?_ _)); exact BK257.out))⟩; have n2_ : Aside0 (w23.heap[gb267]? = some (.cells #[.int .u8 t259, .int .u8 t260, .int .u8 t261, .int .u16 t262] 25 (0, 0))) := ⟨(by rw [hw]; exact (by (with_reducible repeat (first | refine blk_drewN ?_ _ | refine blk_drew ?_ | refine blk_alloc ?_ _)); refine blk_put (cs := #[.int .u8 t259, .int .u8 t260, .int .u8 t261, .int .u16 0]) ?_ 3 _ rfl; (with_reducible repeat (first | refine blk_drewN ?_ _ | refine blk_drew ?_ | refine blk_alloc ?_ _)); refine blk_put (cs := #[.int .u8 t259, .int .u8 t260, .int .u8 0, .int .u16 0]) ?_ 2 _ rfl; (with_reducible repeat (first | refine blk_drewN ?_ _ | refine blk_drew ?_ | refine blk_alloc ?_ _)); refine blk_put (cs := #[.int .u8 t259, .int .u8 0, .int .u8 0, .int .u16 0]) ?_ 1 _ rfl; (with_reducible repeat (first | refine blk_drewN ?_ _ | refine blk_drew ?_ | refine blk_alloc ?_ _)); refine blk_put (cs := #[.int .u8 0, .int .u8 0, .int .u8 0, .int .u16 0]) ?_ 0 _ rfl; (with_reducible repeat (first | refine blk_drewN ?_ _ | refine blk_drew ?_ | refine blk_alloc ?_ _)); exact BK267.out))⟩; have n3_ : Aside0 (Below w.heap.size w w23) := ⟨(by rw [hw]; exact (by repeat (first | (with_reducible first | exact HB.out | apply below_alloc | apply pw_below_drewN | apply below_drew1 | refine below_set ?_ GE257.out | refine below_set ?_ GE267.out) | exact HB.out)))⟩; clear hw; clear HO265; clear BK257; clear BK267; clear HB; have HO265 := n0_; have BK257 := n1_; have BK267 := n2_; have HB := n3_; clear n0_ n1_ n2_ n3_) | ((with_reducible refine gate_callee (f := 9) rfl ?_); refine goesL_ (some 41) rfl rfl Try.func9 (by kernel_rfl) rfl #[.slice A0 l0.length c0] rfl (by (try simp only [List.map_toArray, List.map_cons, List.map_nil]); first | done | rfl | (simp only [List.length_drop, List.length_take]; rfl)) ?_; (with_reducible refine (greenscreenref09_Parse.calls (fun k_ => k_ < w.heap.size) _ _ l0 t268 t269 t270 t271 t272 t275 _ ?side1 A13.out).mono ?_); (case side1 => exact Kd.V_mk HC0.out (Kd.F_below (Kd.C_F (Kd.heap_int .u8) HR0.out) (by repeat (first | (with_reducible first | exact HB.out | apply below_alloc | apply pw_below_drewN | apply below_drew1 | refine below_set ?_ GE257.out | refine below_set ?_ GE267.out) | exact HB.out)))); rintro e w24 ⟨v273, rfl, ho0, hb⟩; refine ⟨_, rfl, ?_⟩; have n0_ := Aside0.mk (Kd.R_below (by (with_reducible repeat (first | apply Kd.R_alloc | apply Kd.R_drewN | apply Kd.R_drew)); exact HO265.out) hb); have n1_ := Aside0.mk (Kd.V_lower (Kd.V_mono (ok' := fun k_ => some k_ ≠ (v264 : Value).ownBlock ∧ k_ ≠ gb257 ∧ k_ ≠ gb267) ho0 (fun k_ hk_ => ⟨Or.elim hk_ (fun hs_ => fun e_ => Nat.not_le.2 hs_ (Kd.R_base HO265.out k_ e_.symm)) (fun hn_ => (Kd.fresh' (Kd.R_lt (by (with_reducible repeat (first | apply Kd.R_alloc | apply Kd.R_drewN | apply Kd.R_drew)); exact HO265.out)) k_ hn_)), Or.elim hk_ (fun hs_ => fun e_ => Nat.not_le.2 hs_ (by rw [e_]; exact GW257.out)) (fun hn_ => (Kd.freshB (g := gb257) (o := .cells #[.int .u8 a1_0, .int .u8 a1_1, .int .u8 a1_2, .int .u16 a1_3] 25 (0, 0)) (by (with_reducible repeat (first | refine blk_drewN ?_ _ | refine blk_drew ?_ | refine blk_alloc ?_ _)); exact BK257.out) k_ hn_)), Or.elim hk_ (fun hs_ => fun e_ => Nat.not_le.2 hs_ (by rw [e_]; exact GW267.out)) (fun hn_ => (Kd.freshB (g := gb267) (o := .cells #[.int .u8 t259, .int .u8 t260, .int .u8 t261, .int .u16 t262] 25 (0, 0)) (by (with_reducible repeat (first | refine blk_drewN ?_ _ | refine blk_drew ?_ | refine blk_alloc ?_ _)); exact BK267.out) k_ hn_))⟩)) (below_size (by repeat (first | (with_reducible first | exact HB.out | apply below_alloc | apply pw_below_drewN | apply below_drew1 | refine below_set ?_ GE257.out | refine below_set ?_ GE267.out) | exact HB.out)))); have n2_ := Aside0.mk (blk_below (g := gb257) (o := .cells #[.int .u8 a1_0, .int .u8 a1_1, .int .u8 a1_2, .int .u16 a1_3] 25 (0, 0)) (by (with_reducible repeat (first | refine blk_drewN ?_ _ | refine blk_drew ?_ | refine blk_alloc ?_ _)); exact BK257.out) hb); have n3_ := Aside0.mk (blk_below (g := gb267) (o := .cells #[.int .u8 t259, .int .u8 t260, .int .u8 t261, .int .u16 t262] 25 (0, 0)) (by (with_reducible repeat (first | refine blk_drewN ?_ _ | refine blk_drew ?_ | refine blk_alloc ?_ _)); exact BK267.out) hb); have n4_ := Aside0.mk (below_step (by repeat (first | (with_reducible first | exact HB.out | apply below_alloc | apply pw_below_drewN | apply below_drew1 | refine below_set ?_ GE257.out | refine below_set ?_ GE267.out) | exact HB.out)) hb); clear HO265; clear BK257; clear BK267; clear HB; have HO265 := n0_; have HO274 := n1_; have BK257 := n2_; have BK267 := n3_; have HB := n4_; clear n0_ n1_ n2_ n3_ n4_; (try clear hb); (try clear hb2); (try clear hk); (try clear hi); (try clear ho0)) | ((with_reducible refine gate_dst (N := 12) rfl ?_); (try (refine gate_guard (by rfl) ?_; dsimp only)); refine box_event ?hg (N := 12) ?hd (cs := #[.int .u8 0, .int .u8 0, .int .u8 0, .int .i64 0]) (t := 31) ?hr ?_; (case hd => rfl); (case hg => rfl); (case hr => first | (go_simp; done) | (go_simp; rfl)); intro gb276 hg w25 hbox hb; have n0_ := Aside0.mk (Kd.R_below (by (with_reducible repeat (first | apply Kd.R_alloc | apply Kd.R_drewN | apply Kd.R_drew)); exact HO265.out) hb); have n1_ := Aside0.mk (Kd.V_below (Kd.V_elderB (by (with_reducible repeat (first | apply Kd.V_alloc | apply Kd.V_drewN | apply Kd.V_drew)); exact HO274.out) gb276 (Nat.le_of_eq hg.symm)) hb); have n2_ := Aside0.mk (blk_below (g := gb257) (o := .cells #[.int .u8 a1_0, .int .u8 a1_1, .int .u8 a1_2, .int .u16 a1_3] 25 (0, 0)) (by (with_reducible repeat (first | refine blk_drewN ?_ _ | refine blk_drew ?_ | refine blk_alloc ?_ _)); exact BK257.out) hb); have n3_ := Aside0.mk (blk_below (g := gb267) (o := .cells #[.int .u8 t259, .int .u8 t260, .int .u8 t261, .int .u16 t262] 25 (0, 0)) (by (with_reducible repeat (first | refine blk_drewN ?_ _ | refine blk_drew ?_ | refine blk_alloc ?_ _)); exact BK267.out) hb); have n4_ := Aside0.mk (below_step (by repeat (first | (with_reducible first | exact HB.out | apply below_alloc | apply pw_below_drewN | apply below_drew1 | refine below_set ?_ GE257.out | refine below_set ?_ GE267.out) | exact HB.out)) hb); have n5_ := Aside0.mk (hbox); have n6_ := Aside0.mk ((by rw [hg]; exact (below_size (by repeat (first | (with_reducible first | exact HB.out | apply below_alloc | apply pw_below_drewN | apply below_drew1 | refine below_set ?_ GE257.out | refine below_set ?_ GE267.out) | exact HB.out))) : w.heap.size ≤ gb276)); have n7_ := Aside0.mk ((by rw [hg]; exact (below_size (by repeat (first | (with_reducible first | exact HB.out | apply below_alloc | apply pw_below_drewN | apply below_drew1 | refine below_set ?_ GE257.out | refine below_set ?_ GE267.out) | exact HB.out))) : w.heap.size ≤ gb276)); have n8_ := Aside0.mk ((by rw [hg]; exact Nat.ne_of_lt (blk_lt (g := gb257) (o := .cells #[.int .u8 a1_0, .int .u8 a1_1, .int .u8 a1_2, .int .u16 a1_3] 25 (0, 0)) (by (with_reducible repeat (first | refine blk_drewN ?_ _ | refine blk_drew ?_ | refine blk_alloc ?_ _)); exact BK257.out)) : gb257 ≠ gb276)); have n9_ := Aside0.mk ((by rw [hg]; exact Nat.ne_of_gt (blk_lt (g := gb257) (o := .cells #[.int .u8 a1_0, .int .u8 a1_1, .int .u8 a1_2, .int .u16 a1_3] 25 (0, 0)) (by (with_reducible repeat (first | refine blk_drewN ?_ _ | refine blk_drew ?_ | refine blk_alloc ?_ _)); exact BK257.out)) : gb276 ≠ gb257)); have n10_ := Aside0.mk ((by rw [hg]; exact Nat.ne_of_lt (blk_lt (g := gb267) (o := .cells #[.int .u8 t259, .int .u8 t260, .int .u8 t261, .int .u16 t262] 25 (0, 0)) (by (with_reducible repeat (first | refine blk_drewN ?_ _ | refine blk_drew ?_ | refine blk_alloc ?_ _)); exact BK267.out)) : gb267 ≠ gb276)); have n11_ := Aside0.mk ((by rw [hg]; exact Nat.ne_of_gt (blk_lt (g := gb267) (o := .cells #[.int .u8 t259, .int .u8 t260, .int .u8 t261, .int .u16 t262] 25 (0, 0)) (by (with_reducible repeat (first | refine blk_drewN ?_ _ | refine blk_drew ?_ | refine blk_alloc ?_ _)); exact BK267.out)) : gb276 ≠ gb267)); clear HO265; clear HO274; clear BK257; clear BK267; clear HB; have HO265 := n0_; have HO274 := n1_; have BK257 := n2_; have BK267 := n3_; have HB := n4_; have BK276 := n5_; have GW276 := n6_; have GE276 := n7_; have NB257_276 := n8_; have NB276_257 := n9_; have NB267_276 := n10_; have NB276_267 := n11_; clear n0_ n1_ n2_ n3_ n4_ n5_ n6_ n7_ n8_ n9_ n10_ n11_; clear hb hbox hg; have hnb26 := NB276_257.out; have hnc26 := NB257_276.out; have hnb27 := NB276_267.out; have hnc27 := NB267_276.out; have hcz28_0 : w25.cell? ⟨gb276, 0, none⟩ = some (.int .u8 0) := (blk_cell BK276.out 0).trans rfl; have hcz28_1 : w25.cell? ⟨gb276, 1, none⟩ = some (.int .u8 0) := (blk_cell BK276.out 1).trans rfl; have hcz28_2 : w25.cell? ⟨gb276, 2, none⟩ = some (.int .u8 0) := (blk_cell BK276.out 2).trans rfl; have hcz28_3 : w25.cell? ⟨gb276, 3, none⟩ = some (.int .i64 0) := (blk_cell BK276.out 3).trans rfl; have hfz28_0 := blk_frozen BK276.out 0; have hfz28_1 := blk_frozen BK276.out 1; have hfz28_2 := blk_frozen BK276.out 2; have hfz28_3 := blk_frozen BK276.out 3; have hcz29_0 : w25.cell? ⟨gb257, 0, none⟩ = some (.int .u8 a1_0) := (blk_cell BK257.out 0).trans rfl; have hcz29_1 : w25.cell? ⟨gb257, 1, none⟩ = some (.int .u8 a1_1) := (blk_cell BK257.out 1).trans rfl; have hcz29_2 : w25.cell? ⟨gb257, 2, none⟩ = some (.int .u8 a1_2) := (blk_cell BK257.out 2).trans rfl; have hcz29_3 : w25.cell? ⟨gb257, 3, none⟩ = some (.int .u16 a1_3) := (blk_cell BK257.out 3).trans rfl; have hfz29_0 := blk_frozen BK257.out 0; have hfz29_1 := blk_frozen BK257.out 1; have hfz29_2 := blk_frozen BK257.out 2; have hfz29_3 := blk_frozen BK257.out 3) | ((with_reducible refine gate_callee (f := 10) rfl ?_); refine goesL_ (some 48) rfl rfl Try.func10 (by kernel_rfl) rfl #[.agg #[.int .u8 a1_0, .int .u8 a1_1, .int .u8 a1_2, .int .u16 a1_3], .int .i64 a2] rfl (by (try simp only [List.map_toArray, List.map_cons, List.map_nil]); first | done | rfl | (simp only [List.length_drop, List.length_take]; rfl)) ?_; (with_reducible refine (header_Answer.calls kj6 a1_0 a1_1 a1_2 a1_3 a2 t277 t280 _ A14.out).mono ?_); rintro e w30 ⟨v278, rfl, ho0, hb⟩; refine ⟨_, rfl, ?_⟩; have n0_ := Aside0.mk (Kd.R_elder' (by (with_reducible repeat (first | apply Kd.R_alloc | apply Kd.R_drewN | apply Kd.R_drew)); exact (Kd.R_mono (Kd.R_far (p := ⟨gb276, 3, none⟩) (Kd.R_far (p := ⟨gb276, 2, none⟩) (Kd.R_far (p := ⟨gb276, 1, none⟩) (Kd.R_far (p := ⟨gb276, 0, none⟩) (Kd.R_types HO265.out BK276.out (by decide)) (fun _ hk => hk.2) (.int .u8 t268)) (fun _ hk => hk.2) (.int .u8 t269)) (fun _ hk => hk.2) (.int .u8 t270)) (fun _ hk => hk.2) (.int .i64 t271)) (fun _ h_ => h_.1))) (Kd.R_base ho0) hb); have n1_ := Aside0.mk (Kd.V_elder' (by (with_reducible repeat (first | apply Kd.V_alloc | apply Kd.V_drewN | apply Kd.V_drew)); exact (Kd.V_mono (Kd.V_far (p := ⟨gb276, 3, none⟩) (Kd.V_far (p := ⟨gb276, 2, none⟩) (Kd.V_far (p := ⟨gb276, 1, none⟩) (Kd.V_far (p := ⟨gb276, 0, none⟩) (Kd.V_mono HO274.out (fun k_ hk => (⟨hk, hk.2⟩ : _ ∧ k_ ≠ gb276))) (fun _ hk => hk.2) (.int .u8 t268)) (fun _ hk => hk.2) (.int .u8 t269)) (fun _ hk => hk.2) (.int .u8 t270)) (fun _ hk => hk.2) (.int .i64 t271)) (fun _ h_ => h_.1))) (Kd.R_base ho0) hb); have n2_ := Aside0.mk (Kd.R_lower (Kd.R_new' ho0 (Kd.R_lt (by (with_reducible repeat (first | apply Kd.R_alloc | apply Kd.R_drewN | apply Kd.R_drew)); exact (Kd.R_mono (Kd.R_far (p := ⟨gb276, 3, none⟩) (Kd.R_far (p := ⟨gb276, 2, none⟩) (Kd.R_far (p := ⟨gb276, 1, none⟩) (Kd.R_far (p := ⟨gb276, 0, none⟩) (Kd.R_types HO265.out BK276.out (by decide)) (fun _ hk => hk.2) (.int .u8 t268)) (fun _ hk => hk.2) (.int .u8 t269)) (fun _ hk => hk.2) (.int .u8 t270)) (fun _ hk => hk.2) (.int .i64 t271)) (fun _ h_ => h_.1))))) (below_size (by repeat (first | (with_reducible first | exact HB.out | apply below_alloc | apply pw_below_drewN | apply below_drew1 | refine below_set ?_ GE257.out | refine below_set ?_ GE267.out | refine below_set ?_ GE276.out) | exact HB.out)))); have n3_ := Aside0.mk (blk_below (g := gb257) (o := .cells #[.int .u8 a1_0, .int .u8 a1_1, .int .u8 a1_2, .int .u16 a1_3] 25 (0, 0)) (by (with_reducible repeat (first | refine blk_drewN ?_ _ | refine blk_drew ?_ | refine blk_alloc ?_ _)); refine blk_far ?_ NB257_276.out _; (with_reducible repeat (first | refine blk_drewN ?_ _ | refine blk_drew ?_ | refine blk_alloc ?_ _)); refine blk_far ?_ NB257_276.out _; (with_reducible repeat (first | refine blk_drewN ?_ _ | refine blk_drew ?_ | refine blk_alloc ?_ _)); refine blk_far ?_ NB257_276.out _; (with_reducible repeat (first | refine blk_drewN ?_ _ | refine blk_drew ?_ | refine blk_alloc ?_ _)); refine blk_far ?_ NB257_276.out _; (with_reducible repeat (first | refine blk_drewN ?_ _ | refine blk_drew ?_ | refine blk_alloc ?_ _)); exact BK257.out) hb); have n4_ := Aside0.mk (blk_below (g := gb267) (o := .cells #[.int .u8 t259, .int .u8 t260, .int .u8 t261, .int .u16 t262] 25 (0, 0)) (by (with_reducible repeat (first | refine blk_drewN ?_ _ | refine blk_drew ?_ | refine blk_alloc ?_ _)); refine blk_far ?_ NB267_276.out _; (with_reducible repeat (first | refine blk_drewN ?_ _ | refine blk_drew ?_ | refine blk_alloc ?_ _)); refine blk_far ?_ NB267_276.out _; (with_reducible repeat (first | refine blk_drewN ?_ _ | refine blk_drew ?_ | refine blk_alloc ?_ _)); refine blk_far ?_ NB267_276.out _; (with_reducible repeat (first | refine blk_drewN ?_ _ | refine blk_drew ?_ | refine blk_alloc ?_ _)); refine blk_far ?_ NB267_276.out _; (with_reducible repeat (first | refine blk_drewN ?_ _ | refine blk_drew ?_ | refine blk_alloc ?_ _)); exact BK267.out) hb); have n5_ := Aside0.mk (blk_below (g := gb276) (o := .cells #[.int .u8 t268, .int .u8 t269, .int .u8 t270, .int .i64 t271] 31 (0, 0)) (by (with_reducible repeat (first | refine blk_drewN ?_ _ | refine blk_drew ?_ | refine blk_alloc ?_ _)); refine blk_put (cs := #[.int .u8 t268, .int .u8 t269, .int .u8 t270, .int .i64 0]) ?_ 3 _ rfl; (with_reducible repeat (first | refine blk_drewN ?_ _ | refine blk_drew ?_ | refine blk_alloc ?_ _)); refine blk_put (cs := #[.int .u8 t268, .int .u8 t269, .int .u8 0, .int .i64 0]) ?_ 2 _ rfl; (with_reducible repeat (first | refine blk_drewN ?_ _ | refine blk_drew ?_ | refine blk_alloc ?_ _)); refine blk_put (cs := #[.int .u8 t268, .int .u8 0, .int .u8 0, .int .i64 0]) ?_ 1 _ rfl; (with_reducible repeat (first | refine blk_drewN ?_ _ | refine blk_drew ?_ | refine blk_alloc ?_ _)); refine blk_put (cs := #[.int .u8 0, .int .u8 0, .int .u8 0, .int .i64 0]) ?_ 0 _ rfl; (with_reducible repeat (first | refine blk_drewN ?_ _ | refine blk_drew ?_ | refine blk_alloc ?_ _)); exact BK276.out) hb); have n6_ := Aside0.mk (below_step (by repeat (first | (with_reducible first | exact HB.out | apply below_alloc | apply pw_below_drewN | apply below_drew1 | refine below_set ?_ GE257.out | refine below_set ?_ GE267.out | refine below_set ?_ GE276.out) | exact HB.out)) hb); clear HO265; clear HO274; clear BK257; clear BK267; clear BK276; clear HB; have HO265 := n0_; have HO274 := n1_; have HO279 := n2_; have BK257 := n3_; have BK267 := n4_; have BK276 := n5_; have HB := n6_; clear n0_ n1_ n2_ n3_ n4_ n5_ n6_; (try clear hb); (try clear hb2); (try clear hk); (try clear hi); (try clear ho0); have hcz31_0 : w30.cell? ⟨gb257, 0, none⟩ = some (.int .u8 a1_0) := (blk_cell BK257.out 0).trans rfl; have hcz31_1 : w30.cell? ⟨gb257, 1, none⟩ = some (.int .u8 a1_1) := (blk_cell BK257.out 1).trans rfl; have hcz31_2 : w30.cell? ⟨gb257, 2, none⟩ = some (.int .u8 a1_2) := (blk_cell BK257.out 2).trans rfl; have hcz31_3 : w30.cell? ⟨gb257, 3, none⟩ = some (.int .u16 a1_3) := (blk_cell BK257.out 3).trans rfl; have hfz31_0 := blk_frozen BK257.out 0; have hfz31_1 := blk_frozen BK257.out 1; have hfz31_2 := blk_frozen BK257.out 2; have hfz31_3 := blk_frozen BK257.out 3) | ((with_reducible refine gate_callee (f := 12) rfl ?_); refine goesL_ (some 53) rfl rfl Try.func12 (by kernel_rfl) rfl #[.agg #[.int .u8 a1_0, .int .u8 a1_1, .int .u8 a1_2, .int .u16 a1_3]] rfl (by (try simp only [List.map_toArray, List.map_cons, List.map_nil]); first | done | rfl | (simp only [List.length_drop, List.length_take]; rfl)) ?_; (with_reducible refine (greenscreenlaw09_as.calls a1_0 a1_1 a1_2 a1_3 t281 t282 t283 t284 _ A15.out).mono ?_); rintro e w32 ⟨rfl, hb⟩; refine ⟨_, rfl, ?_⟩; have n0_ := Aside0.mk (Kd.R_below (by (with_reducible repeat (first | apply Kd.R_alloc | apply Kd.R_drewN | apply Kd.R_drew)); exact HO265.out) hb); have n1_ := Aside0.mk (Kd.V_below (by (with_reducible repeat (first | apply Kd.V_alloc | apply Kd.V_drewN | apply Kd.V_drew)); exact HO274.out) hb); have n2_ := Aside0.mk (Kd.R_below (by (with_reducible repeat (first | apply Kd.R_alloc | apply Kd.R_drewN | apply Kd.R_drew)); exact HO279.out) hb); have n3_ := Aside0.mk (blk_below (g := gb257) (o := .cells #[.int .u8 a1_0, .int .u8 a1_1, .int .u8 a1_2, .int .u16 a1_3] 25 (0, 0)) (by (with_reducible repeat (first | refine blk_drewN ?_ _ | refine blk_drew ?_ | refine blk_alloc ?_ _)); exact BK257.out) hb); have n4_ := Aside0.mk (blk_below (g := gb267) (o := .cells #[.int .u8 t259, .int .u8 t260, .int .u8 t261, .int .u16 t262] 25 (0, 0)) (by (with_reducible repeat (first | refine blk_drewN ?_ _ | refine blk_drew ?_ | refine blk_alloc ?_ _)); exact BK267.out) hb); have n5_ := Aside0.mk (blk_below (g := gb276) (o := .cells #[.int .u8 t268, .int .u8 t269, .int .u8 t270, .int .i64 t271] 31 (0, 0)) (by (with_reducible repeat (first | refine blk_drewN ?_ _ | refine blk_drew ?_ | refine blk_alloc ?_ _)); exact BK276.out) hb); have n6_ := Aside0.mk (below_step (by repeat (first | (with_reducible first | exact HB.out | apply below_alloc | apply pw_below_drewN | apply below_drew1 | refine below_set ?_ GE257.out | refine below_set ?_ GE267.out | refine below_set ?_ GE276.out) | exact HB.out)) hb); clear HO265; clear HO274; clear HO279; clear BK257; clear BK267; clear BK276; clear HB; have HO265 := n0_; have HO274 := n1_; have HO279 := n2_; have BK257 := n3_; have BK267 := n4_; have BK276 := n5_; have HB := n6_; clear n0_ n1_ n2_ n3_ n4_ n5_ n6_; (try clear hb); (try clear hb2); (try clear hk); (try clear hi)) | ((with_reducible refine gate_callee (f := 11) rfl ?_); refine goesL_ (some 55) rfl rfl Try.func11 (by kernel_rfl) rfl #[.agg #[.int .u8 t281, .int .u8 t282, .int .u8 t283, .int .i64 t284], .int .i64 a2] rfl (by (try simp only [List.map_toArray, List.map_cons, List.map_nil]); first | done | rfl | (simp only [List.length_drop, List.length_take]; rfl)) ?_; (with_reducible refine (greenscreenref09_Answer.calls kj6 t281 t282 t283 t284 a2 t285 t288 _ A16.out).mono ?_); rintro e w33 ⟨v286, rfl, ho0, hb⟩; refine ⟨_, rfl, ?_⟩; have n0_ := Aside0.mk (Kd.R_elder' (by (with_reducible repeat (first | apply Kd.R_alloc | apply Kd.R_drewN | apply Kd.R_drew)); exact HO265.out) (Kd.R_base ho0) hb); have n1_ := Aside0.mk (Kd.V_elder' (by (with_reducible repeat (first | apply Kd.V_alloc | apply Kd.V_drewN | apply Kd.V_drew)); exact HO274.out) (Kd.R_base ho0) hb); have n2_ := Aside0.mk (Kd.R_elder' (by (with_reducible repeat (first | apply Kd.R_alloc | apply Kd.R_drewN | apply Kd.R_drew)); exact HO279.out) (Kd.R_base ho0) hb); have n3_ := Aside0.mk (Kd.R_lower (Kd.R_new' (Kd.R_new' ho0 (Kd.R_lt (by (with_reducible repeat (first | apply Kd.R_alloc | apply Kd.R_drewN | apply Kd.R_drew)); exact HO265.out))) (Kd.R_lt (by (with_reducible repeat (first | apply Kd.R_alloc | apply Kd.R_drewN | apply Kd.R_drew)); exact HO279.out))) (below_size (by repeat (first | (with_reducible first | exact HB.out | apply below_alloc | apply pw_below_drewN | apply below_drew1 | refine below_set ?_ GE257.out | refine below_set ?_ GE267.out | refine below_set ?_ GE276.out) | exact HB.out)))); have n4_ := Aside0.mk (blk_below (g := gb257) (o := .cells #[.int .u8 a1_0, .int .u8 a1_1, .int .u8 a1_2, .int .u16 a1_3] 25 (0, 0)) (by (with_reducible repeat (first | refine blk_drewN ?_ _ | refine blk_drew ?_ | refine blk_alloc ?_ _)); exact BK257.out) hb); have n5_ := Aside0.mk (blk_below (g := gb267) (o := .cells #[.int .u8 t259, .int .u8 t260, .int .u8 t261, .int .u16 t262] 25 (0, 0)) (by (with_reducible repeat (first | refine blk_drewN ?_ _ | refine blk_drew ?_ | refine blk_alloc ?_ _)); exact BK267.out) hb); have n6_ := Aside0.mk (blk_below (g := gb276) (o := .cells #[.int .u8 t268, .int .u8 t269, .int .u8 t270, .int .i64 t271] 31 (0, 0)) (by (with_reducible repeat (first | refine blk_drewN ?_ _ | refine blk_drew ?_ | refine blk_alloc ?_ _)); exact BK276.out) hb); have n7_ := Aside0.mk (below_step (by repeat (first | (with_reducible first | exact HB.out | apply below_alloc | apply pw_below_drewN | apply below_drew1 | refine below_set ?_ GE257.out | refine below_set ?_ GE267.out | refine below_set ?_ GE276.out) | exact HB.out)) hb); clear HO265; clear HO274; clear HO279; clear BK257; clear BK267; clear BK276; clear HB; have HO265 := n0_; have HO274 := n1_; have HO279 := n2_; have HO287 := n3_; have BK257 := n4_; have BK267 := n5_; have BK276 := n6_; have HB := n7_; clear n0_ n1_ n2_ n3_ n4_ n5_ n6_ n7_; (try clear hb); (try clear hb2); (try clear hk); (try clear hi); (try clear ho0); have hcz34_0 : w33.cell? ⟨gb257, 0, none⟩ = some (.int .u8 a1_0) := (blk_cell BK257.out 0).trans rfl; have hcz34_1 : w33.cell? ⟨gb257, 1, none⟩ = some (.int .u8 a1_1) := (blk_cell BK257.out 1).trans rfl; have hcz34_2 : w33.cell? ⟨gb257, 2, none⟩ = some (.int .u8 a1_2) := (blk_cell BK257.out 2).trans rfl; have hcz34_3 : w33.cell? ⟨gb257, 3, none⟩ = some (.int .u16 a1_3) := (blk_cell BK257.out 3).trans rfl; have hfz34_0 := blk_frozen BK257.out 0; have hfz34_1 := blk_frozen BK257.out 1; have hfz34_2 := blk_frozen BK257.out 2; have hfz34_3 := blk_frozen BK257.out 3) | ((with_reducible refine gate_callee (f := 13) rfl ?_); refine goesL_ (some 61) rfl rfl Try.func13 (by kernel_rfl) rfl #[.agg #[.int .u8 a1_0, .int .u8 a1_1, .int .u8 a1_2, .int .u16 a1_3], .slice A3 l3.length c3] rfl (by (try simp only [List.map_toArray, List.map_cons, List.map_nil]); first | done | rfl | (simp only [List.length_drop, List.length_take]; rfl)) ?_; (with_reducible refine (header_Sense.calls a1_0 a1_1 a1_2 a1_3 _ _ l3 t289 t290 t291 _ ?side1 ?side2 A17.out).mono ?_); (case side1 => repeat (first | exact (Kd.C_below HR3.out HB.out) | (with_reducible refine Kd.C_alloc ?_ _) | (with_reducible refine Kd.C_drewN ?_ _) | (with_reducible refine Kd.C_drew ?_))); (case side2 => exact HC3.out); rintro e w35 ⟨rfl, hb⟩; refine ⟨_, rfl, ?_⟩; have n0_ := Aside0.mk (Kd.R_below (by (with_reducible repeat (first | apply Kd.R_alloc | apply Kd.R_drewN | apply Kd.R_drew)); exact HO265.out) hb); have n1_ := Aside0.mk (Kd.V_below (by (with_reducible repeat (first | apply Kd.V_alloc | apply Kd.V_drewN | apply Kd.V_drew)); exact HO274.out) hb); have n2_ := Aside0.mk (Kd.R_below (by (with_reducible repeat (first | apply Kd.R_alloc | apply Kd.R_drewN | apply Kd.R_drew)); exact HO279.out) hb); have n3_ := Aside0.mk (Kd.R_below (by (with_reducible repeat (first | apply Kd.R_alloc | apply Kd.R_drewN | apply Kd.R_drew)); exact HO287.out) hb); have n4_ := Aside0.mk (blk_below (g := gb257) (o := .cells #[.int .u8 a1_0, .int .u8 a1_1, .int .u8 a1_2, .int .u16 a1_3] 25 (0, 0)) (by (with_reducible repeat (first | refine blk_drewN ?_ _ | refine blk_drew ?_ | refine blk_alloc ?_ _)); exact BK257.out) hb); have n5_ := Aside0.mk (blk_below (g := gb267) (o := .cells #[.int .u8 t259, .int .u8 t260, .int .u8 t261, .int .u16 t262] 25 (0, 0)) (by (with_reducible repeat (first | refine blk_drewN ?_ _ | refine blk_drew ?_ | refine blk_alloc ?_ _)); exact BK267.out) hb); have n6_ := Aside0.mk (blk_below (g := gb276) (o := .cells #[.int .u8 t268, .int .u8 t269, .int .u8 t270, .int .i64 t271] 31 (0, 0)) (by (with_reducible repeat (first | refine blk_drewN ?_ _ | refine blk_drew ?_ | refine blk_alloc ?_ _)); exact BK276.out) hb); have n7_ := Aside0.mk (below_step (by repeat (first | (with_reducible first | exact HB.out | apply below_alloc | apply pw_below_drewN | apply below_drew1 | refine below_set ?_ GE257.out | refine below_set ?_ GE267.out | refine below_set ?_ GE276.out) | exact HB.out)) hb); clear HO265; clear HO274; clear HO279; clear HO287; clear BK257; clear BK267; clear BK276; clear HB; have HO265 := n0_; have HO274 := n1_; have HO279 := n2_; have HO287 := n3_; have BK257 := n4_; have BK267 := n5_; have BK276 := n6_; have HB := n7_; clear n0_ n1_ n2_ n3_ n4_ n5_ n6_ n7_; (try clear hb); (try clear hb2); (try clear hk); (try clear hi)))
          (try simp only [Act.put, List.setIfInBounds_toArray, List.set_cons_zero, List.set_cons_succ])
          go_cut [22] (fun v22 wc => ∃ (kq : Nat) (x22_17 : Bool), v22 = .bool x22_17 ∧ Aside0 (greenscreenlaw09_HeaderBytes.j1 kq a2 l3 t263 t266 t272 t275 t277 t280 t285 t288 t289 t290 t291 x22_17 a1_0 a1_1 a1_2 a1_3 t259 t260 t261 t262 t268 t269 t270 t271 = some r) ∧ Aside0 (kq ≤ kj6) ∧ Aside0 (Kd.R (Kd.int .u8) 5 wc w.heap.size (fun k_ => some k_ ≠ (v278 : Value).ownBlock ∧ some k_ ≠ (v286 : Value).ownBlock) v264 t263) ∧ Aside0 (Kd.V (Kd.int .u8) 5 wc w.heap.size (fun k_ => some k_ ≠ (v264 : Value).ownBlock ∧ some k_ ≠ (v278 : Value).ownBlock ∧ some k_ ≠ (v286 : Value).ownBlock ∧ k_ ≠ gb257 ∧ k_ ≠ gb267 ∧ k_ ≠ gb276) v273 t272) ∧ Aside0 (Kd.R (Kd.int .u8) 5 wc w.heap.size (fun k_ => some k_ ≠ (v264 : Value).ownBlock ∧ some k_ ≠ (v286 : Value).ownBlock) v278 t277) ∧ Aside0 (Kd.R (Kd.int .u8) 5 wc w.heap.size (fun k_ => some k_ ≠ (v264 : Value).ownBlock ∧ some k_ ≠ (v278 : Value).ownBlock) v286 t285) ∧ Aside0 (wc.heap[gb257]? = some (.cells #[.int .u8 a1_0, .int .u8 a1_1, .int .u8 a1_2, .int .u16 a1_3] 25 (0, 0))) ∧ Aside0 (wc.heap[gb267]? = some (.cells #[.int .u8 t259, .int .u8 t260, .int .u8 t261, .int .u16 t262] 25 (0, 0))) ∧ Aside0 (wc.heap[gb276]? = some (.cells #[.int .u8 t268, .int .u8 t269, .int .u8 t270, .int .i64 t271] 31 (0, 0))) ∧ Aside0 (Below w.heap.size w wc))
          case first =>
            have H := HC18.out
            clear HC18
            by_cases c36 : a1_0 = 2
            · rw [if_pos c36] at H
              have c36b0 : (a1_0 == 2) = true := beq_iff_eq.mpr c36
              have c36b1 : (a1_0 != 2) = false := bne_eq_false_iff_eq.mpr c36
              clear c36
              (first | rw [c36b0] | (simp only [i64_w, i32_w]; rw [c36b0]) | skip)
              by_cases c37 : a1_2 < 2
              · rw [if_pos c37] at H
                have c37b0 : decide (a1_2 < 2) = true := decide_eq_true c37
                clear c37
                have H' := Aside0.mk H
                clear H
                have hnb38 := NB257_267.out
                have hnc38 := NB267_257.out
                have hnb39 := NB257_276.out
                have hnc39 := NB276_257.out
                have hcz40_0 : w35.cell? ⟨gb257, 0, none⟩ = some (.int .u8 a1_0) := (blk_cell BK257.out 0).trans rfl
                have hcz40_1 : w35.cell? ⟨gb257, 1, none⟩ = some (.int .u8 a1_1) := (blk_cell BK257.out 1).trans rfl
                have hcz40_2 : w35.cell? ⟨gb257, 2, none⟩ = some (.int .u8 a1_2) := (blk_cell BK257.out 2).trans rfl
                have hcz40_3 : w35.cell? ⟨gb257, 3, none⟩ = some (.int .u16 a1_3) := (blk_cell BK257.out 3).trans rfl
                have hfz40_0 := blk_frozen BK257.out 0
                have hfz40_1 := blk_frozen BK257.out 1
                have hfz40_2 := blk_frozen BK257.out 2
                have hfz40_3 := blk_frozen BK257.out 3
                go_wp2
                go_meet
                case rel => exact ⟨_, (((l3.length : Int) == 1)), (by first | rfl | (simp; done) | (simp [*]; done)), H', ⟨by have := HJ6.out; first | omega | exact Nat.le_refl _⟩, ⟨by (with_reducible repeat (first | apply Kd.R_alloc | apply Kd.R_drewN | apply Kd.R_drew)); exact Kd.R_mono HO265.out (fun _ hk => ⟨hk.1.2, hk.2⟩)⟩, ⟨by (with_reducible repeat (first | apply Kd.V_alloc | apply Kd.V_drewN | apply Kd.V_drew)); exact Kd.V_mono HO274.out (fun _ hk => ⟨hk.1.1.1.1, ⟨hk.1.2, ⟨hk.2, ⟨hk.1.1.1.2.1, ⟨hk.1.1.1.2.2, hk.1.1.2⟩⟩⟩⟩⟩)⟩, ⟨by (with_reducible repeat (first | apply Kd.R_alloc | apply Kd.R_drewN | apply Kd.R_drew)); exact Kd.R_mono HO279.out (fun _ hk => ⟨hk.1.2, hk.2⟩)⟩, ⟨by (with_reducible repeat (first | apply Kd.R_alloc | apply Kd.R_drewN | apply Kd.R_drew)); exact Kd.R_mono HO287.out (fun _ hk => ⟨hk.1.2, hk.2⟩)⟩, ⟨by (with_reducible repeat (first | refine blk_drewN ?_ _ | refine blk_drew ?_ | refine blk_alloc ?_ _)); exact BK257.out⟩, ⟨by (with_reducible repeat (first | refine blk_drewN ?_ _ | refine blk_drew ?_ | refine blk_alloc ?_ _)); exact BK267.out⟩, ⟨by (with_reducible repeat (first | refine blk_drewN ?_ _ | refine blk_drew ?_ | refine blk_alloc ?_ _)); exact BK276.out⟩, ⟨by repeat (first | (with_reducible first | exact HB.out | apply below_alloc | apply pw_below_drewN | apply below_drew1 | refine below_set ?_ GE257.out | refine below_set ?_ GE267.out | refine below_set ?_ GE276.out) | exact HB.out)⟩⟩
              · rw [if_neg c37] at H
                have c37b0 : decide (a1_2 < 2) = false := decide_eq_false c37
                clear c37
                have H' := Aside0.mk H
                clear H
                have hnb41 := NB257_267.out
                have hnc41 := NB267_257.out
                have hnb42 := NB257_276.out
                have hnc42 := NB276_257.out
                have hcz43_0 : w35.cell? ⟨gb257, 0, none⟩ = some (.int .u8 a1_0) := (blk_cell BK257.out 0).trans rfl
                have hcz43_1 : w35.cell? ⟨gb257, 1, none⟩ = some (.int .u8 a1_1) := (blk_cell BK257.out 1).trans rfl
                have hcz43_2 : w35.cell? ⟨gb257, 2, none⟩ = some (.int .u8 a1_2) := (blk_cell BK257.out 2).trans rfl
                have hcz43_3 : w35.cell? ⟨gb257, 3, none⟩ = some (.int .u16 a1_3) := (blk_cell BK257.out 3).trans rfl
                have hfz43_0 := blk_frozen BK257.out 0
                have hfz43_1 := blk_frozen BK257.out 1
                have hfz43_2 := blk_frozen BK257.out 2
                have hfz43_3 := blk_frozen BK257.out 3
                go_wp2
                go_meet
                case rel => exact ⟨_, (false), (by first | rfl | (simp; done) | (simp [*]; done)), H', ⟨by have := HJ6.out; first | omega | exact Nat.le_refl _⟩, ⟨by (with_reducible repeat (first | apply Kd.R_alloc | apply Kd.R_drewN | apply Kd.R_drew)); exact Kd.R_mono HO265.out (fun _ hk => ⟨hk.1.2, hk.2⟩)⟩, ⟨by (with_reducible repeat (first | apply Kd.V_alloc | apply Kd.V_drewN | apply Kd.V_drew)); exact Kd.V_mono HO274.out (fun _ hk => ⟨hk.1.1.1.1, ⟨hk.1.2, ⟨hk.2, ⟨hk.1.1.1.2.1, ⟨hk.1.1.1.2.2, hk.1.1.2⟩⟩⟩⟩⟩)⟩, ⟨by (with_reducible repeat (first | apply Kd.R_alloc | apply Kd.R_drewN | apply Kd.R_drew)); exact Kd.R_mono HO279.out (fun _ hk => ⟨hk.1.2, hk.2⟩)⟩, ⟨by (with_reducible repeat (first | apply Kd.R_alloc | apply Kd.R_drewN | apply Kd.R_drew)); exact Kd.R_mono HO287.out (fun _ hk => ⟨hk.1.2, hk.2⟩)⟩, ⟨by (with_reducible repeat (first | refine blk_drewN ?_ _ | refine blk_drew ?_ | refine blk_alloc ?_ _)); exact BK257.out⟩, ⟨by (with_reducible repeat (first | refine blk_drewN ?_ _ | refine blk_drew ?_ | refine blk_alloc ?_ _)); exact BK267.out⟩, ⟨by (with_reducible repeat (first | refine blk_drewN ?_ _ | refine blk_drew ?_ | refine blk_alloc ?_ _)); exact BK276.out⟩, ⟨by repeat (first | (with_reducible first | exact HB.out | apply below_alloc | apply pw_below_drewN | apply below_drew1 | refine below_set ?_ GE257.out | refine below_set ?_ GE267.out | refine below_set ?_ GE276.out) | exact HB.out)⟩⟩
            · rw [if_neg c36] at H
              have c36b0 : (a1_0 == 2) = false := beq_eq_false_iff_ne.mpr c36
              have c36b1 : (a1_0 != 2) = true := bne_iff_ne.mpr c36
              (first | rw [c36b0] | (simp only [i64_w, i32_w]; rw [c36b0]) | skip)
              have H' := Aside0.mk H
              clear H
              have hnb44 := NB257_267.out
              have hnc44 := NB267_257.out
              have hnb45 := NB257_276.out
              have hnc45 := NB276_257.out
              have hcz46_0 : w35.cell? ⟨gb257, 0, none⟩ = some (.int .u8 a1_0) := (blk_cell BK257.out 0).trans rfl
              have hcz46_1 : w35.cell? ⟨gb257, 1, none⟩ = some (.int .u8 a1_1) := (blk_cell BK257.out 1).trans rfl
              have hcz46_2 : w35.cell? ⟨gb257, 2, none⟩ = some (.int .u8 a1_2) := (blk_cell BK257.out 2).trans rfl
              have hcz46_3 : w35.cell? ⟨gb257, 3, none⟩ = some (.int .u16 a1_3) := (blk_cell BK257.out 3).trans rfl
              have hfz46_0 := blk_frozen BK257.out 0
              have hfz46_1 := blk_frozen BK257.out 1
              have hfz46_2 := blk_frozen BK257.out 2
              have hfz46_3 := blk_frozen BK257.out 3
              go_wp2
              go_meet
              case rel => exact ⟨_, (false), (by first | rfl | (simp; done) | (simp [*]; done)), H', ⟨by have := HJ6.out; first | omega | exact Nat.le_refl _⟩, ⟨by (with_reducible repeat (first | apply Kd.R_alloc | apply Kd.R_drewN | apply Kd.R_drew)); exact Kd.R_mono HO265.out (fun _ hk => ⟨hk.1.2, hk.2⟩)⟩, ⟨by (with_reducible repeat (first | apply Kd.V_alloc | apply Kd.V_drewN | apply Kd.V_drew)); exact Kd.V_mono HO274.out (fun _ hk => ⟨hk.1.1.1.1, ⟨hk.1.2, ⟨hk.2, ⟨hk.1.1.1.2.1, ⟨hk.1.1.1.2.2, hk.1.1.2⟩⟩⟩⟩⟩)⟩, ⟨by (with_reducible repeat (first | apply Kd.R_alloc | apply Kd.R_drewN | apply Kd.R_drew)); exact Kd.R_mono HO279.out (fun _ hk => ⟨hk.1.2, hk.2⟩)⟩, ⟨by (with_reducible repeat (first | apply Kd.R_alloc | apply Kd.R_drewN | apply Kd.R_drew)); exact Kd.R_mono HO287.out (fun _ hk => ⟨hk.1.2, hk.2⟩)⟩, ⟨by (with_reducible repeat (first | refine blk_drewN ?_ _ | refine blk_drew ?_ | refine blk_alloc ?_ _)); exact BK257.out⟩, ⟨by (with_reducible repeat (first | refine blk_drewN ?_ _ | refine blk_drew ?_ | refine blk_alloc ?_ _)); exact BK267.out⟩, ⟨by (with_reducible repeat (first | refine blk_drewN ?_ _ | refine blk_drew ?_ | refine blk_alloc ?_ _)); exact BK276.out⟩, ⟨by repeat (first | (with_reducible first | exact HB.out | apply below_alloc | apply pw_below_drewN | apply below_drew1 | refine below_set ?_ GE257.out | refine below_set ?_ GE267.out | refine below_set ?_ GE276.out) | exact HB.out)⟩⟩
          case rest =>
            clear HC18
            try clear c1
            try clear c2
            try clear p2
            try clear c3
            try clear c4
            try clear c6
            try clear c7
            try clear c8
            try clear c9
            try clear c10
            try clear c10b0
            try clear c10b1
            try clear c11
            try clear c12
            try clear c13
            try clear c21
            try clear c26
            try clear c27
            try clear c36
            try clear c36b0
            try clear c36b1
            try clear c37
            try clear c37b0
            try clear c38
            try clear c39
            try clear c41
            try clear c42
            try clear c44
            try clear c45
            try clear hcz22_0
            try clear hcz22_1
            try clear hcz22_2
            try clear hcz22_3
            try clear hcz28_0
            try clear hcz28_1
            try clear hcz28_2
            try clear hcz28_3
            try clear hcz29_0
            try clear hcz29_1
            try clear hcz29_2
            try clear hcz29_3
            try clear hcz31_0
            try clear hcz31_1
            try clear hcz31_2
            try clear hcz31_3
            try clear hcz34_0
            try clear hcz34_1
            try clear hcz34_2
            try clear hcz34_3
            try clear hcz40_0
            try clear hcz40_1
            try clear hcz40_2
            try clear hcz40_3
            try clear hcz43_0
            try clear hcz43_1
            try clear hcz43_2
            try clear hcz43_3
            try clear hcz46_0
            try clear hcz46_1
            try clear hcz46_2
            try clear hcz46_3
            try clear hfz22_0
            try clear hfz22_1
            try clear hfz22_2
            try clear hfz22_3
            try clear hfz28_0
            try clear hfz28_1
            try clear hfz28_2
            try clear hfz28_3
            try clear hfz29_0
            try clear hfz29_1
            try clear hfz29_2
            try clear hfz29_3
            try clear hfz31_0
            try clear hfz31_1
            try clear hfz31_2
            try clear hfz31_3
            try clear hfz34_0
            try clear hfz34_1
            try clear hfz34_2
            try clear hfz34_3
            try clear hfz40_0
            try clear hfz40_1
            try clear hfz40_2
            try clear hfz40_3
            try clear hfz43_0
            try clear hfz43_1
            try clear hfz43_2
            try clear hfz43_3
            try clear hfz46_0
            try clear hfz46_1
            try clear hfz46_2
            try clear hfz46_3
            try clear p2
            obtain ⟨kq, x22_17, rfl, HA, HJ17, HO_10, HO_13, HO_15, HO_17, BK257, BK267, BK276, HB⟩ := hcut
            cases kq with
            | zero => exact absurd HA.out (by simp [greenscreenlaw09_HeaderBytes.j1])
            | succ kj17 =>
              have H := HA.out
              clear HA
              simp only [greenscreenlaw09_HeaderBytes.j1] at H
              have HC47 := Aside0.mk H
              clear H
              go_upto_region 11 with (fail)
              go_cut [108] (fun v108 wc => ∃ (kq : Nat) (x108_46 : Bool), v108 = .bool x108_46 ∧ Aside0 (greenscreenlaw09_HeaderBytes.j2 kq a2 l3 t263 t266 t272 t275 t277 t280 t285 t288 x108_46 a1_0 a1_1 a1_2 a1_3 t259 t260 t261 t262 t268 t269 t270 t271 = some r) ∧ Aside0 (kq ≤ kj17) ∧ Aside0 (Kd.R (Kd.int .u8) 5 wc w.heap.size (fun k_ => some k_ ≠ (v278 : Value).ownBlock ∧ some k_ ≠ (v286 : Value).ownBlock) v264 t263) ∧ Aside0 (Kd.V (Kd.int .u8) 5 wc w.heap.size (fun k_ => some k_ ≠ (v264 : Value).ownBlock ∧ some k_ ≠ (v278 : Value).ownBlock ∧ some k_ ≠ (v286 : Value).ownBlock ∧ k_ ≠ gb257 ∧ k_ ≠ gb267 ∧ k_ ≠ gb276) v273 t272) ∧ Aside0 (Kd.R (Kd.int .u8) 5 wc w.heap.size (fun k_ => some k_ ≠ (v264 : Value).ownBlock ∧ some k_ ≠ (v286 : Value).ownBlock) v278 t277) ∧ Aside0 (Kd.R (Kd.int .u8) 5 wc w.heap.size (fun k_ => some k_ ≠ (v264 : Value).ownBlock ∧ some k_ ≠ (v278 : Value).ownBlock) v286 t285) ∧ Aside0 (wc.heap[gb257]? = some (.cells #[.int .u8 a1_0, .int .u8 a1_1, .int .u8 a1_2, .int .u16 a1_3] 25 (0, 0))) ∧ Aside0 (wc.heap[gb267]? = some (.cells #[.int .u8 t259, .int .u8 t260, .int .u8 t261, .int .u16 t262] 25 (0, 0))) ∧ Aside0 (wc.heap[gb276]? = some (.cells #[.int .u8 t268, .int .u8 t269, .int .u8 t270, .int .i64 t271] 31 (0, 0))) ∧ Aside0 (Below w.heap.size w wc))
              case first =>
                have H := HC47.out
                clear HC47
                by_cases c48 : (t291 != x22_17) = true
                · rw [if_pos c48] at H
                  have c48b0 : (t291 != x22_17) = true := c48
                  (try (have c48b1 : decide (t291 = x22_17) = false := by simpa using c48))
                  (try (have c48b2 : (t291 == x22_17) = false := by simpa using c48))
                  (try (have c48b3 : ¬ (t291 = x22_17) := by simpa using c48))
                  clear c48
                  (first | rw [c48b0] | (simp only [i64_w, i32_w]; rw [c48b0]) | skip)
                  have H' := Aside0.mk H
                  clear H
                  go_wp2
                  go_meet
                  case rel => exact ⟨_, (true), (by first | rfl | (simp; done) | (simp [*]; done)), H', ⟨by have := HJ6.out; have := HJ17.out; first | omega | exact Nat.le_refl _⟩, ⟨by (with_reducible repeat (first | apply Kd.R_alloc | apply Kd.R_drewN | apply Kd.R_drew)); exact HO_10.out⟩, ⟨by (with_reducible repeat (first | apply Kd.V_alloc | apply Kd.V_drewN | apply Kd.V_drew)); exact HO_13.out⟩, ⟨by (with_reducible repeat (first | apply Kd.R_alloc | apply Kd.R_drewN | apply Kd.R_drew)); exact HO_15.out⟩, ⟨by (with_reducible repeat (first | apply Kd.R_alloc | apply Kd.R_drewN | apply Kd.R_drew)); exact HO_17.out⟩, ⟨by (with_reducible repeat (first | refine blk_drewN ?_ _ | refine blk_drew ?_ | refine blk_alloc ?_ _)); exact BK257.out⟩, ⟨by (with_reducible repeat (first | refine blk_drewN ?_ _ | refine blk_drew ?_ | refine blk_alloc ?_ _)); exact BK267.out⟩, ⟨by (with_reducible repeat (first | refine blk_drewN ?_ _ | refine blk_drew ?_ | refine blk_alloc ?_ _)); exact BK276.out⟩, ⟨by repeat (first | (with_reducible first | exact HB.out | apply below_alloc | apply pw_below_drewN | apply below_drew1 | refine below_set ?_ GE257.out | refine below_set ?_ GE267.out | refine below_set ?_ GE276.out) | exact HB.out)⟩⟩
                · rw [if_neg c48] at H
                  have c48b0 : (t291 != x22_17) = false := by simpa using c48
                  (try (have c48b1 : decide (t291 = x22_17) = true := by simpa using c48))
                  (try (have c48b2 : (t291 == x22_17) = true := by simpa using c48))
                  clear c48
                  (first | rw [c48b0] | (simp only [i64_w, i32_w]; rw [c48b0]) | skip)
                  by_cases c49 : t291 = true
                  · subst c49
                    have H1 : (if 0 < (l3.length : Int) then (if t289 = (rd l3 0) then (if (t290 != (a1_2 == 0)) = true then (greenscreenlaw09_HeaderBytes.j2 kj17 a2 l3 t263 t266 t272 t275 t277 t280 t285 t288 true a1_0 a1_1 a1_2 a1_3 t259 t260 t261 t262 t268 t269 t270 t271) else (greenscreenlaw09_HeaderBytes.j2 kj17 a2 l3 t263 t266 t272 t275 t277 t280 t285 t288 false a1_0 a1_1 a1_2 a1_3 t259 t260 t261 t262 t268 t269 t270 t271)) else (greenscreenlaw09_HeaderBytes.j2 kj17 a2 l3 t263 t266 t272 t275 t277 t280 t285 t288 true a1_0 a1_1 a1_2 a1_3 t259 t260 t261 t262 t268 t269 t270 t271)) else (none)) = some r := by rw [if_pos rfl] at H; exact H
                    clear H
                    have H := H1
                    clear H1
                    by_cases c50 : 0 < (l3.length : Int)
                    · rw [if_pos c50] at H
                      have c50b0 : decide (0 < (l3.length : Int)) = true := decide_eq_true c50
                      have c50b1 : decide (0 < l3.length) = true := decide_eq_true (by omega)
                      clear c50
                      by_cases c51 : t289 = (rd l3 0)
                      · rw [if_pos c51] at H
                        have c51b0 : (t289 == (rd l3 0)) = true := beq_iff_eq.mpr c51
                        have c51b1 : (t289 != (rd l3 0)) = false := bne_eq_false_iff_eq.mpr c51
                        clear c51
                        by_cases c52 : (t290 != (a1_2 == 0)) = true
                        · rw [if_pos c52] at H
                          have c52b0 : (t290 != (a1_2 == 0)) = true := c52
                          (try (have c52e0 : (t290 = (a1_2 == 0)) = False := by (have he_ := c52b0; revert he_; cases (t290) <;> cases ((a1_2 == 0)) <;> simp)))
                          (try (have c52e1 : (t290 == (a1_2 == 0)) = false := by (have he_ := c52b0; revert he_; cases (t290) <;> cases ((a1_2 == 0)) <;> simp)))
                          (try (have c52b1 : decide (t290 = (a1_2 == 0)) = false := by simpa using c52))
                          (try (have c52b2 : (t290 == (a1_2 == 0)) = false := by simpa using c52))
                          (try (have c52b3 : ¬ (t290 = (a1_2 == 0)) := by simpa using c52))
                          clear c52
                          have H' := Aside0.mk H
                          clear H
                          have p292 : 0 ≤ (0 : Int) := (by omega)
                          have q292 : 0 < (l3.length : Int) := of_decide_eq_true (by first | (with_reducible assumption) | assumption)
                          obtain ⟨ad292, e292, hx292_0⟩ := Kd.at_int HR3.out 0 p292 q292
                          cases e292
                          have qi292 : (0 < l3.length) = True := eq_true (by omega)
                          (try rw [show ((0 : Int)).toNat = 0 from rfl] at hx292_0)
                          (try rw [Addr.add_zero'] at hx292_0)
                          replace hx292_0 := (HB.out.cell (World.block_lt_of_cell? w _ hx292_0)).trans hx292_0
                          replace p292 := eq_true p292
                          replace q292 := eq_true q292
                          have hnb53 := NB257_267.out
                          have hnc53 := NB267_257.out
                          have hnb54 := NB257_276.out
                          have hnc54 := NB276_257.out
                          have hcz55_0 : wc.cell? ⟨gb257, 0, none⟩ = some (.int .u8 a1_0) := (blk_cell BK257.out 0).trans rfl
                          have hcz55_1 : wc.cell? ⟨gb257, 1, none⟩ = some (.int .u8 a1_1) := (blk_cell BK257.out 1).trans rfl
                          have hcz55_2 : wc.cell? ⟨gb257, 2, none⟩ = some (.int .u8 a1_2) := (blk_cell BK257.out 2).trans rfl
                          have hcz55_3 : wc.cell? ⟨gb257, 3, none⟩ = some (.int .u16 a1_3) := (blk_cell BK257.out 3).trans rfl
                          have hfz55_0 := blk_frozen BK257.out 0
                          have hfz55_1 := blk_frozen BK257.out 1
                          have hfz55_2 := blk_frozen BK257.out 2
                          have hfz55_3 := blk_frozen BK257.out 3
                          go_wp2
                          go_meet
                          case rel => exact ⟨_, (true), (by first | rfl | (simp; done) | (simp [*]; done)), H', ⟨by have := HJ6.out; have := HJ17.out; first | omega | exact Nat.le_refl _⟩, ⟨by (with_reducible repeat (first | apply Kd.R_alloc | apply Kd.R_drewN | apply Kd.R_drew)); exact HO_10.out⟩, ⟨by (with_reducible repeat (first | apply Kd.V_alloc | apply Kd.V_drewN | apply Kd.V_drew)); exact HO_13.out⟩, ⟨by (with_reducible repeat (first | apply Kd.R_alloc | apply Kd.R_drewN | apply Kd.R_drew)); exact HO_15.out⟩, ⟨by (with_reducible repeat (first | apply Kd.R_alloc | apply Kd.R_drewN | apply Kd.R_drew)); exact HO_17.out⟩, ⟨by (with_reducible repeat (first | refine blk_drewN ?_ _ | refine blk_drew ?_ | refine blk_alloc ?_ _)); exact BK257.out⟩, ⟨by (with_reducible repeat (first | refine blk_drewN ?_ _ | refine blk_drew ?_ | refine blk_alloc ?_ _)); exact BK267.out⟩, ⟨by (with_reducible repeat (first | refine blk_drewN ?_ _ | refine blk_drew ?_ | refine blk_alloc ?_ _)); exact BK276.out⟩, ⟨by repeat (first | (with_reducible first | exact HB.out | apply below_alloc | apply pw_below_drewN | apply below_drew1 | refine below_set ?_ GE257.out | refine below_set ?_ GE267.out | refine below_set ?_ GE276.out) | exact HB.out)⟩⟩
                        · rw [if_neg c52] at H
                          have c52b0 : (t290 != (a1_2 == 0)) = false := by simpa using c52
                          (try (have c52e0 : (t290 = (a1_2 == 0)) = True := by (have he_ := c52b0; revert he_; cases (t290) <;> cases ((a1_2 == 0)) <;> simp)))
                          (try (have c52e1 : (t290 == (a1_2 == 0)) = true := by (have he_ := c52b0; revert he_; cases (t290) <;> cases ((a1_2 == 0)) <;> simp)))
                          (try (have c52b1 : decide (t290 = (a1_2 == 0)) = true := by simpa using c52))
                          (try (have c52b2 : (t290 == (a1_2 == 0)) = true := by simpa using c52))
                          clear c52
                          have H' := Aside0.mk H
                          clear H
                          have p292 : 0 ≤ (0 : Int) := (by omega)
                          have q292 : 0 < (l3.length : Int) := of_decide_eq_true (by first | (with_reducible assumption) | assumption)
                          obtain ⟨ad292, e292, hx292_0⟩ := Kd.at_int HR3.out 0 p292 q292
                          cases e292
                          have qi292 : (0 < l3.length) = True := eq_true (by omega)
                          (try rw [show ((0 : Int)).toNat = 0 from rfl] at hx292_0)
                          (try rw [Addr.add_zero'] at hx292_0)
                          replace hx292_0 := (HB.out.cell (World.block_lt_of_cell? w _ hx292_0)).trans hx292_0
                          replace p292 := eq_true p292
                          replace q292 := eq_true q292
                          have hnb56 := NB257_267.out
                          have hnc56 := NB267_257.out
                          have hnb57 := NB257_276.out
                          have hnc57 := NB276_257.out
                          have hcz58_0 : wc.cell? ⟨gb257, 0, none⟩ = some (.int .u8 a1_0) := (blk_cell BK257.out 0).trans rfl
                          have hcz58_1 : wc.cell? ⟨gb257, 1, none⟩ = some (.int .u8 a1_1) := (blk_cell BK257.out 1).trans rfl
                          have hcz58_2 : wc.cell? ⟨gb257, 2, none⟩ = some (.int .u8 a1_2) := (blk_cell BK257.out 2).trans rfl
                          have hcz58_3 : wc.cell? ⟨gb257, 3, none⟩ = some (.int .u16 a1_3) := (blk_cell BK257.out 3).trans rfl
                          have hfz58_0 := blk_frozen BK257.out 0
                          have hfz58_1 := blk_frozen BK257.out 1
                          have hfz58_2 := blk_frozen BK257.out 2
                          have hfz58_3 := blk_frozen BK257.out 3
                          go_wp2
                          go_meet
                          case rel => exact ⟨_, (false), (by first | rfl | (simp; done) | (simp [*]; done)), H', ⟨by have := HJ6.out; have := HJ17.out; first | omega | exact Nat.le_refl _⟩, ⟨by (with_reducible repeat (first | apply Kd.R_alloc | apply Kd.R_drewN | apply Kd.R_drew)); exact HO_10.out⟩, ⟨by (with_reducible repeat (first | apply Kd.V_alloc | apply Kd.V_drewN | apply Kd.V_drew)); exact HO_13.out⟩, ⟨by (with_reducible repeat (first | apply Kd.R_alloc | apply Kd.R_drewN | apply Kd.R_drew)); exact HO_15.out⟩, ⟨by (with_reducible repeat (first | apply Kd.R_alloc | apply Kd.R_drewN | apply Kd.R_drew)); exact HO_17.out⟩, ⟨by (with_reducible repeat (first | refine blk_drewN ?_ _ | refine blk_drew ?_ | refine blk_alloc ?_ _)); exact BK257.out⟩, ⟨by (with_reducible repeat (first | refine blk_drewN ?_ _ | refine blk_drew ?_ | refine blk_alloc ?_ _)); exact BK267.out⟩, ⟨by (with_reducible repeat (first | refine blk_drewN ?_ _ | refine blk_drew ?_ | refine blk_alloc ?_ _)); exact BK276.out⟩, ⟨by repeat (first | (with_reducible first | exact HB.out | apply below_alloc | apply pw_below_drewN | apply below_drew1 | refine below_set ?_ GE257.out | refine below_set ?_ GE267.out | refine below_set ?_ GE276.out) | exact HB.out)⟩⟩
                      · rw [if_neg c51] at H
                        have c51b0 : (t289 == (rd l3 0)) = false := beq_eq_false_iff_ne.mpr c51
                        have c51b1 : (t289 != (rd l3 0)) = true := bne_iff_ne.mpr c51
                        have H' := Aside0.mk H
                        clear H
                        have p292 : 0 ≤ (0 : Int) := (by omega)
                        have q292 : 0 < (l3.length : Int) := of_decide_eq_true (by first | (with_reducible assumption) | assumption)
                        obtain ⟨ad292, e292, hx292_0⟩ := Kd.at_int HR3.out 0 p292 q292
                        cases e292
                        have qi292 : (0 < l3.length) = True := eq_true (by omega)
                        (try rw [show ((0 : Int)).toNat = 0 from rfl] at hx292_0)
                        (try rw [Addr.add_zero'] at hx292_0)
                        replace hx292_0 := (HB.out.cell (World.block_lt_of_cell? w _ hx292_0)).trans hx292_0
                        replace p292 := eq_true p292
                        replace q292 := eq_true q292
                        go_wp2
                        go_meet
                        case rel => exact ⟨_, (true), (by first | rfl | (simp; done) | (simp [*]; done)), H', ⟨by have := HJ6.out; have := HJ17.out; first | omega | exact Nat.le_refl _⟩, ⟨by (with_reducible repeat (first | apply Kd.R_alloc | apply Kd.R_drewN | apply Kd.R_drew)); exact HO_10.out⟩, ⟨by (with_reducible repeat (first | apply Kd.V_alloc | apply Kd.V_drewN | apply Kd.V_drew)); exact HO_13.out⟩, ⟨by (with_reducible repeat (first | apply Kd.R_alloc | apply Kd.R_drewN | apply Kd.R_drew)); exact HO_15.out⟩, ⟨by (with_reducible repeat (first | apply Kd.R_alloc | apply Kd.R_drewN | apply Kd.R_drew)); exact HO_17.out⟩, ⟨by (with_reducible repeat (first | refine blk_drewN ?_ _ | refine blk_drew ?_ | refine blk_alloc ?_ _)); exact BK257.out⟩, ⟨by (with_reducible repeat (first | refine blk_drewN ?_ _ | refine blk_drew ?_ | refine blk_alloc ?_ _)); exact BK267.out⟩, ⟨by (with_reducible repeat (first | refine blk_drewN ?_ _ | refine blk_drew ?_ | refine blk_alloc ?_ _)); exact BK276.out⟩, ⟨by repeat (first | (with_reducible first | exact HB.out | apply below_alloc | apply pw_below_drewN | apply below_drew1 | refine below_set ?_ GE257.out | refine below_set ?_ GE267.out | refine below_set ?_ GE276.out) | exact HB.out)⟩⟩
                    · rw [if_neg c50] at H
                      exact absurd H (by simp)
                  · replace c49 := Bool.eq_false_iff.mpr c49
                    subst c49
                    have H1 : (if t289 = 0 then (greenscreenlaw09_HeaderBytes.j2 kj17 a2 l3 t263 t266 t272 t275 t277 t280 t285 t288 t290 a1_0 a1_1 a1_2 a1_3 t259 t260 t261 t262 t268 t269 t270 t271) else (greenscreenlaw09_HeaderBytes.j2 kj17 a2 l3 t263 t266 t272 t275 t277 t280 t285 t288 true a1_0 a1_1 a1_2 a1_3 t259 t260 t261 t262 t268 t269 t270 t271)) = some r := by rw [if_neg (show ¬ (false = true) by decide)] at H; exact H
                    clear H
                    have H := H1
                    clear H1
                    by_cases c59 : t289 = 0
                    · rw [if_pos c59] at H
                      have c59b0 : (t289 == 0) = true := beq_iff_eq.mpr c59
                      have c59b1 : (t289 != 0) = false := bne_eq_false_iff_eq.mpr c59
                      clear c59
                      have H' := Aside0.mk H
                      clear H
                      go_wp2
                      go_meet
                      case rel => exact ⟨_, (t290), (by first | rfl | (simp; done) | (simp [*]; done)), H', ⟨by have := HJ6.out; have := HJ17.out; first | omega | exact Nat.le_refl _⟩, ⟨by (with_reducible repeat (first | apply Kd.R_alloc | apply Kd.R_drewN | apply Kd.R_drew)); exact HO_10.out⟩, ⟨by (with_reducible repeat (first | apply Kd.V_alloc | apply Kd.V_drewN | apply Kd.V_drew)); exact HO_13.out⟩, ⟨by (with_reducible repeat (first | apply Kd.R_alloc | apply Kd.R_drewN | apply Kd.R_drew)); exact HO_15.out⟩, ⟨by (with_reducible repeat (first | apply Kd.R_alloc | apply Kd.R_drewN | apply Kd.R_drew)); exact HO_17.out⟩, ⟨by (with_reducible repeat (first | refine blk_drewN ?_ _ | refine blk_drew ?_ | refine blk_alloc ?_ _)); exact BK257.out⟩, ⟨by (with_reducible repeat (first | refine blk_drewN ?_ _ | refine blk_drew ?_ | refine blk_alloc ?_ _)); exact BK267.out⟩, ⟨by (with_reducible repeat (first | refine blk_drewN ?_ _ | refine blk_drew ?_ | refine blk_alloc ?_ _)); exact BK276.out⟩, ⟨by repeat (first | (with_reducible first | exact HB.out | apply below_alloc | apply pw_below_drewN | apply below_drew1 | refine below_set ?_ GE257.out | refine below_set ?_ GE267.out | refine below_set ?_ GE276.out) | exact HB.out)⟩⟩
                    · rw [if_neg c59] at H
                      have c59b0 : (t289 == 0) = false := beq_eq_false_iff_ne.mpr c59
                      have c59b1 : (t289 != 0) = true := bne_iff_ne.mpr c59
                      have H' := Aside0.mk H
                      clear H
                      go_wp2
                      go_meet
                      case rel => exact ⟨_, (true), (by first | rfl | (simp; done) | (simp [*]; done)), H', ⟨by have := HJ6.out; have := HJ17.out; first | omega | exact Nat.le_refl _⟩, ⟨by (with_reducible repeat (first | apply Kd.R_alloc | apply Kd.R_drewN | apply Kd.R_drew)); exact HO_10.out⟩, ⟨by (with_reducible repeat (first | apply Kd.V_alloc | apply Kd.V_drewN | apply Kd.V_drew)); exact HO_13.out⟩, ⟨by (with_reducible repeat (first | apply Kd.R_alloc | apply Kd.R_drewN | apply Kd.R_drew)); exact HO_15.out⟩, ⟨by (with_reducible repeat (first | apply Kd.R_alloc | apply Kd.R_drewN | apply Kd.R_drew)); exact HO_17.out⟩, ⟨by (with_reducible repeat (first | refine blk_drewN ?_ _ | refine blk_drew ?_ | refine blk_alloc ?_ _)); exact BK257.out⟩, ⟨by (with_reducible repeat (first | refine blk_drewN ?_ _ | refine blk_drew ?_ | refine blk_alloc ?_ _)); exact BK267.out⟩, ⟨by (with_reducible repeat (first | refine blk_drewN ?_ _ | refine blk_drew ?_ | refine blk_alloc ?_ _)); exact BK276.out⟩, ⟨by repeat (first | (with_reducible first | exact HB.out | apply below_alloc | apply pw_below_drewN | apply below_drew1 | refine below_set ?_ GE257.out | refine below_set ?_ GE267.out | refine below_set ?_ GE276.out) | exact HB.out)⟩⟩
              case rest =>
                clear HC47
                try clear c1
                try clear c2
                try clear p2
                try clear q2
                try clear hx2
                try clear qi2
                try clear c3
                try clear c4
                try clear c5
                try clear c6
                try clear c7
                try clear c8
                try clear c9
                try clear c10
                try clear c10b0
                try clear c10b1
                try clear c11
                try clear c12
                try clear c13
                try clear c21
                try clear c26
                try clear c27
                try clear p29
                try clear q29
                try clear hx29
                try clear qi29
                try clear c36
                try clear c36b0
                try clear c36b1
                try clear c37
                try clear c37b0
                try clear c38
                try clear c39
                try clear c41
                try clear c42
                try clear c44
                try clear c45
                try clear c48
                try clear c48b0
                try clear c48b1
                try clear c48b2
                try clear c49
                try clear c50
                try clear c50b0
                try clear c50b1
                try clear c51
                try clear c51b0
                try clear c51b1
                try clear c52
                try clear c52b0
                try clear c52b1
                try clear c52b2
                try clear c53
                try clear c54
                try clear c56
                try clear c57
                try clear c59
                try clear c59b0
                try clear c59b1
                try clear hcz22_0
                try clear hcz22_1
                try clear hcz22_2
                try clear hcz22_3
                try clear hcz28_0
                try clear hcz28_1
                try clear hcz28_2
                try clear hcz28_3
                try clear hcz29_0
                try clear hcz29_1
                try clear hcz29_2
                try clear hcz29_3
                try clear hcz31_0
                try clear hcz31_1
                try clear hcz31_2
                try clear hcz31_3
                try clear hcz34_0
                try clear hcz34_1
                try clear hcz34_2
                try clear hcz34_3
                try clear hcz40_0
                try clear hcz40_1
                try clear hcz40_2
                try clear hcz40_3
                try clear hcz43_0
                try clear hcz43_1
                try clear hcz43_2
                try clear hcz43_3
                try clear hcz46_0
                try clear hcz46_1
                try clear hcz46_2
                try clear hcz46_3
                try clear hcz55_0
                try clear hcz55_1
                try clear hcz55_2
                try clear hcz55_3
                try clear hcz58_0
                try clear hcz58_1
                try clear hcz58_2
                try clear hcz58_3
                try clear hfz22_0
                try clear hfz22_1
                try clear hfz22_2
                try clear hfz22_3
                try clear hfz28_0
                try clear hfz28_1
                try clear hfz28_2
                try clear hfz28_3
                try clear hfz29_0
                try clear hfz29_1
                try clear hfz29_2
                try clear hfz29_3
                try clear hfz31_0
                try clear hfz31_1
                try clear hfz31_2
                try clear hfz31_3
                try clear hfz34_0
                try clear hfz34_1
                try clear hfz34_2
                try clear hfz34_3
                try clear hfz40_0
                try clear hfz40_1
                try clear hfz40_2
                try clear hfz40_3
                try clear hfz43_0
                try clear hfz43_1
                try clear hfz43_2
                try clear hfz43_3
                try clear hfz46_0
                try clear hfz46_1
                try clear hfz46_2
                try clear hfz46_3
                try clear hfz55_0
                try clear hfz55_1
                try clear hfz55_2
                try clear hfz55_3
                try clear hfz58_0
                try clear hfz58_1
                try clear hfz58_2
                try clear hfz58_3
                try clear hx292_0
                try clear p2
                try clear p292
                try clear q292
                obtain ⟨kq, x108_46, rfl, HA, HJ46, HO_10, HO_13, HO_15, HO_17, BK257, BK267, BK276, HB⟩ := hcut
                cases kq with
                | zero => exact absurd HA.out (by simp [greenscreenlaw09_HeaderBytes.j2])
                | succ kj46 =>
                  have H := HA.out
                  clear HA
                  simp only [greenscreenlaw09_HeaderBytes.j2] at H
                  by_cases c60 : x108_46 = true
                  · subst c60
                    have H1 : (some false) = some r := by rw [if_pos rfl] at H; exact H
                    clear H
                    have H := H1
                    clear H1
                    obtain rfl := Option.some.inj H
                    exact absurd hr_ (by decide)
                  · replace c60 := Bool.eq_false_iff.mpr c60
                    subst c60
                    have H1 : (if t266 = t275 then ((greenscreenlaw09_as.f t259 t260 t261 t262).bind fun bt293 => (if (bt293.1 == t268 && (bt293.2.1 == t269 && (bt293.2.2.1 == t270 && (bt293.2.2.2 == t271)))) = true then ((greenscreenref01_Same.f kj46 t263 t272).bind fun t297 => (if t297 = true then (if (t280 == t288) = true then ((greenscreenref01_Same.f kj46 t277 t285).bind fun t298 => (if t298 = true then ((header_Code.f a2).bind fun t299 => ((greenscreenref09_Code.f a2).bind fun t300 => (if t299 = t300 then ((header_Write.f a1_0 a1_1 a1_2 a1_3 l3).bind fun t301 => ((greenscreenlaw09_as.f a1_0 a1_1 a1_2 a1_3).bind fun bt304 => ((greenscreenref09_Write.f kj46 bt304.1 bt304.2.1 bt304.2.2.1 bt304.2.2.2 l3).bind fun t308 => ((greenscreenref01_Same.f kj46 t301 t308).bind fun t311 => (some t311))))) else (some false)))) else (some false))) else (some false)) else (some false))) else (some false))) else (some false)) = some r := by rw [if_neg (show ¬ (false = true) by decide)] at H; exact H
                    clear H
                    have H := H1
                    clear H1
                    by_cases c61 : t266 = t275
                    · rw [if_pos c61] at H
                      have c61b0 : (t266 == t275) = true := beq_iff_eq.mpr c61
                      have c61b1 : (t266 != t275) = false := bne_eq_false_iff_eq.mpr c61
                      clear c61
                      replace H := Option.bind_eq_some_iff.mp H
                      obtain ⟨⟨t293, t294, t295, t296⟩, A620, H⟩ := H
                      replace H : (if (t293 == t268 && (t294 == t269 && (t295 == t270 && (t296 == t271)))) = true then ((greenscreenref01_Same.f kj46 t263 t272).bind fun t297 => (if t297 = true then (if (t280 == t288) = true then ((greenscreenref01_Same.f kj46 t277 t285).bind fun t298 => (if t298 = true then ((header_Code.f a2).bind fun t299 => ((greenscreenref09_Code.f a2).bind fun t300 => (if t299 = t300 then ((header_Write.f a1_0 a1_1 a1_2 a1_3 l3).bind fun t301 => ((greenscreenlaw09_as.f a1_0 a1_1 a1_2 a1_3).bind fun bt304 => ((greenscreenref09_Write.f kj46 bt304.1 bt304.2.1 bt304.2.2.1 bt304.2.2.2 l3).bind fun t308 => ((greenscreenref01_Same.f kj46 t301 t308).bind fun t311 => (some t311))))) else (some false)))) else (some false))) else (some false)) else (some false))) else (some false)) = some r := H
                      have A62 := Aside0.mk A620
                      clear A620
                      by_cases c63 : (t293 == t268 && (t294 == t269 && (t295 == t270 && (t296 == t271)))) = true
                      · rw [if_pos c63] at H
                        have c63b0 : (t293 == t268 && (t294 == t269 && (t295 == t270 && (t296 == t271)))) = true := c63
                        (try (have c63b1 : decide (t293 = t268 && (t294 == t269 && (t295 == t270 && (t296 == t271)))) = true := by simpa using c63))
                        (try (have c63b2 : (t293 == t268 && (t294 == t269 && (t295 == t270 && (t296 == t271)))) = true := by simpa using c63))
                        clear c63
                        replace H := Option.bind_eq_some_iff.mp H
                        obtain ⟨t297, A640, H⟩ := H
                        replace H : (if t297 = true then (if (t280 == t288) = true then ((greenscreenref01_Same.f kj46 t277 t285).bind fun t298 => (if t298 = true then ((header_Code.f a2).bind fun t299 => ((greenscreenref09_Code.f a2).bind fun t300 => (if t299 = t300 then ((header_Write.f a1_0 a1_1 a1_2 a1_3 l3).bind fun t301 => ((greenscreenlaw09_as.f a1_0 a1_1 a1_2 a1_3).bind fun bt304 => ((greenscreenref09_Write.f kj46 bt304.1 bt304.2.1 bt304.2.2.1 bt304.2.2.2 l3).bind fun t308 => ((greenscreenref01_Same.f kj46 t301 t308).bind fun t311 => (some t311))))) else (some false)))) else (some false))) else (some false)) else (some false)) = some r := H
                        have A64 := Aside0.mk A640
                        clear A640
                        by_cases c65 : t297 = true
                        · subst c65
                          have H1 : (if (t280 == t288) = true then ((greenscreenref01_Same.f kj46 t277 t285).bind fun t298 => (if t298 = true then ((header_Code.f a2).bind fun t299 => ((greenscreenref09_Code.f a2).bind fun t300 => (if t299 = t300 then ((header_Write.f a1_0 a1_1 a1_2 a1_3 l3).bind fun t301 => ((greenscreenlaw09_as.f a1_0 a1_1 a1_2 a1_3).bind fun bt304 => ((greenscreenref09_Write.f kj46 bt304.1 bt304.2.1 bt304.2.2.1 bt304.2.2.2 l3).bind fun t308 => ((greenscreenref01_Same.f kj46 t301 t308).bind fun t311 => (some t311))))) else (some false)))) else (some false))) else (some false)) = some r := by rw [if_pos rfl] at H; exact H
                          clear H
                          have H := H1
                          clear H1
                          by_cases c66 : (t280 == t288) = true
                          · rw [if_pos c66] at H
                            have c66b0 : (t280 == t288) = true := c66
                            (try (have c66b1 : decide (t280 = t288) = true := by simpa using c66))
                            (try (have c66b2 : (t280 == t288) = true := by simpa using c66))
                            clear c66
                            replace H := Option.bind_eq_some_iff.mp H
                            obtain ⟨t298, A670, H⟩ := H
                            replace H : (if t298 = true then ((header_Code.f a2).bind fun t299 => ((greenscreenref09_Code.f a2).bind fun t300 => (if t299 = t300 then ((header_Write.f a1_0 a1_1 a1_2 a1_3 l3).bind fun t301 => ((greenscreenlaw09_as.f a1_0 a1_1 a1_2 a1_3).bind fun bt304 => ((greenscreenref09_Write.f kj46 bt304.1 bt304.2.1 bt304.2.2.1 bt304.2.2.2 l3).bind fun t308 => ((greenscreenref01_Same.f kj46 t301 t308).bind fun t311 => (some t311))))) else (some false)))) else (some false)) = some r := H
                            have A67 := Aside0.mk A670
                            clear A670
                            by_cases c68 : t298 = true
                            · subst c68
                              have H1 : ((header_Code.f a2).bind fun t299 => ((greenscreenref09_Code.f a2).bind fun t300 => (if t299 = t300 then ((header_Write.f a1_0 a1_1 a1_2 a1_3 l3).bind fun t301 => ((greenscreenlaw09_as.f a1_0 a1_1 a1_2 a1_3).bind fun bt304 => ((greenscreenref09_Write.f kj46 bt304.1 bt304.2.1 bt304.2.2.1 bt304.2.2.2 l3).bind fun t308 => ((greenscreenref01_Same.f kj46 t301 t308).bind fun t311 => (some t311))))) else (some false)))) = some r := by rw [if_pos rfl] at H; exact H
                              clear H
                              have H := H1
                              clear H1
                              replace H := Option.bind_eq_some_iff.mp H
                              obtain ⟨t299, A690, H⟩ := H
                              replace H : ((greenscreenref09_Code.f a2).bind fun t300 => (if t299 = t300 then ((header_Write.f a1_0 a1_1 a1_2 a1_3 l3).bind fun t301 => ((greenscreenlaw09_as.f a1_0 a1_1 a1_2 a1_3).bind fun bt304 => ((greenscreenref09_Write.f kj46 bt304.1 bt304.2.1 bt304.2.2.1 bt304.2.2.2 l3).bind fun t308 => ((greenscreenref01_Same.f kj46 t301 t308).bind fun t311 => (some t311))))) else (some false))) = some r := H
                              have A69 := Aside0.mk A690
                              clear A690
                              replace H := Option.bind_eq_some_iff.mp H
                              obtain ⟨t300, A700, H⟩ := H
                              replace H : (if t299 = t300 then ((header_Write.f a1_0 a1_1 a1_2 a1_3 l3).bind fun t301 => ((greenscreenlaw09_as.f a1_0 a1_1 a1_2 a1_3).bind fun bt304 => ((greenscreenref09_Write.f kj46 bt304.1 bt304.2.1 bt304.2.2.1 bt304.2.2.2 l3).bind fun t308 => ((greenscreenref01_Same.f kj46 t301 t308).bind fun t311 => (some t311))))) else (some false)) = some r := H
                              have A70 := Aside0.mk A700
                              clear A700
                              by_cases c71 : t299 = t300
                              · rw [if_pos c71] at H
                                have c71b0 : (t299 == t300) = true := beq_iff_eq.mpr c71
                                have c71b1 : (t299 != t300) = false := bne_eq_false_iff_eq.mpr c71
                                clear c71
                                replace H := Option.bind_eq_some_iff.mp H
                                obtain ⟨t301, A720, H⟩ := H
                                replace H : ((greenscreenlaw09_as.f a1_0 a1_1 a1_2 a1_3).bind fun bt304 => ((greenscreenref09_Write.f kj46 bt304.1 bt304.2.1 bt304.2.2.1 bt304.2.2.2 l3).bind fun t308 => ((greenscreenref01_Same.f kj46 t301 t308).bind fun t311 => (some t311)))) = some r := H
                                have A72 := Aside0.mk A720
                                clear A720
                                replace H := Option.bind_eq_some_iff.mp H
                                obtain ⟨⟨t304, t305, t306, t307⟩, A730, H⟩ := H
                                replace H : ((greenscreenref09_Write.f kj46 t304 t305 t306 t307 l3).bind fun t308 => ((greenscreenref01_Same.f kj46 t301 t308).bind fun t311 => (some t311))) = some r := H
                                have A73 := Aside0.mk A730
                                clear A730
                                replace H := Option.bind_eq_some_iff.mp H
                                obtain ⟨t308, A740, H⟩ := H
                                replace H : ((greenscreenref01_Same.f kj46 t301 t308).bind fun t311 => (some t311)) = some r := H
                                have A74 := Aside0.mk A740
                                clear A740
                                replace H := Option.bind_eq_some_iff.mp H
                                obtain ⟨t311, A750, H⟩ := H
                                replace H : (some t311) = some r := H
                                have A75 := Aside0.mk A750
                                clear A750
                                obtain rfl := Option.some.inj H
                                try go_wp2
                                have n0_ := Aside0.mk (Kd.R_drew HO_10.out)
                                have n1_ := Aside0.mk (Kd.V_drew HO_13.out)
                                have n2_ := Aside0.mk (Kd.R_drew HO_15.out)
                                have n3_ := Aside0.mk (Kd.R_drew HO_17.out)
                                have n4_ := Aside0.mk (blk_drew BK257.out)
                                have n5_ := Aside0.mk (blk_drew BK267.out)
                                have n6_ := Aside0.mk (blk_drew BK276.out)
                                have n7_ := Aside0.mk (below_drew1 HB.out)
                                clear HO_10
                                clear HO_13
                                clear HO_15
                                clear HO_17
                                clear BK257
                                clear BK267
                                clear BK276
                                clear HB
                                have HO_10 := n0_
                                have HO_13 := n1_
                                have HO_15 := n2_
                                have HO_17 := n3_
                                have BK257 := n4_
                                have BK267 := n5_
                                have BK276 := n6_
                                have HB := n7_
                                clear n0_ n1_ n2_ n3_ n4_ n5_ n6_ n7_
                                refine start_ (n := 42) (S := fun w' => w'.cell? ⟨gb267, 0, none⟩ = some (.int .u8 t259) ∧ w'.cell? ⟨gb267, 1, none⟩ = some (.int .u8 t260) ∧ w'.cell? ⟨gb267, 2, none⟩ = some (.int .u8 t261) ∧ w'.cell? ⟨gb267, 3, none⟩ = some (.int .u16 t262) ∧ w'.cell? ⟨gb276, 0, none⟩ = some (.int .u8 t268) ∧ w'.cell? ⟨gb276, 1, none⟩ = some (.int .u8 t269) ∧ w'.cell? ⟨gb276, 2, none⟩ = some (.int .u8 t270) ∧ w'.cell? ⟨gb276, 3, none⟩ = some (.int .i64 t271) ∧ w'.cell? ⟨gb257, 0, none⟩ = some (.int .u8 a1_0) ∧ w'.cell? ⟨gb257, 1, none⟩ = some (.int .u8 a1_1) ∧ w'.cell? ⟨gb257, 2, none⟩ = some (.int .u8 a1_2) ∧ w'.cell? ⟨gb257, 3, none⟩ = some (.int .u16 a1_3)) (ds := []) #[false, false, false, false, false, false, false, false, false, false, false, false, false, false, false, false, false, false, false, false, false, false, false, false, false, false, false, false, false, false, false, false, false, false, false, false, false, false, false, false, false, false] (by kernel_rfl) rfl rfl ⟨(blk_cell BK267.out 0).trans rfl, (blk_cell BK267.out 1).trans rfl, (blk_cell BK267.out 2).trans rfl, (blk_cell BK267.out 3).trans rfl, (blk_cell BK276.out 0).trans rfl, (blk_cell BK276.out 1).trans rfl, (blk_cell BK276.out 2).trans rfl, (blk_cell BK276.out 3).trans rfl, (blk_cell BK257.out 0).trans rfl, (blk_cell BK257.out 1).trans rfl, (blk_cell BK257.out 2).trans rfl, (blk_cell BK257.out 3).trans rfl⟩ (fun hHeld => ?_); refine with_tabW greenscreenlaw09_HeaderBytes.tab13 greenscreenlaw09_HeaderBytes.bits13 (fun HT_ HW_ => ?_)
                                generalize wc.drew = w76 at HO_10 HO_13 HO_15 HO_17 BK257 BK267 BK276 HB hHeld ⊢
                                refine pure_ (i := 0) (N := some 109) (v := ?_) (a' := ?_) #[true, false, false, false, false, false, false, false, false, false, false, false, false, false, false, false, false, false, false, false, false, false, false, false, false, false, false, false, false, false, false, false, false, false, false, false, false, false, false, false, false, false] rfl rfl (any_of HT_.out (by kernel_rfl)) (fun _ _ _ h => h) (Or.inl ⟨by rfl, ?_⟩) ?_ ?_
                                rotate_left
                                · intro w'
                                  go_simp
                                  with_reducible rfl
                                rotate_left
                                · simp only [Act.put, List.setIfInBounds_toArray, List.set_cons_zero, List.set_cons_succ, i64_w, i32_w]
                                  rfl
                                refine pure_ (i := 1) (N := some 110) (v := ?_) (a' := ?_) #[true, true, false, false, false, false, false, false, false, false, false, false, false, false, false, false, false, false, false, false, false, false, false, false, false, false, false, false, false, false, false, false, false, false, false, false, false, false, false, false, false, false] rfl rfl (any_of HT_.out (by kernel_rfl)) (fun _ _ _ h => h) (Or.inl ⟨by rfl, ?_⟩) ?_ ?_
                                rotate_left
                                · intro w'
                                  go_simp
                                  with_reducible rfl
                                rotate_left
                                · simp only [Act.put, List.setIfInBounds_toArray, List.set_cons_zero, List.set_cons_succ, i64_w, i32_w]
                                  rfl
                                refine pure_ (i := 2) (N := some 111) (v := ?_) (a' := ?_) #[true, true, true, false, false, false, false, false, false, false, false, false, false, false, false, false, false, false, false, false, false, false, false, false, false, false, false, false, false, false, false, false, false, false, false, false, false, false, false, false, false, false] rfl rfl (any_of HT_.out (by kernel_rfl)) (fun _ _ _ h => h) (Or.inl ⟨by rfl, ?_⟩) ?_ ?_
                                rotate_left
                                · intro w'
                                  go_simp
                                  with_reducible rfl
                                rotate_left
                                · simp only [Act.put, List.setIfInBounds_toArray, List.set_cons_zero, List.set_cons_succ, i64_w, i32_w]
                                  rfl
                                refine pure_ (i := 3) (N := some 112) (v := ?_) (a' := ?_) #[true, true, true, true, false, false, false, false, false, false, false, false, false, false, false, false, false, false, false, false, false, false, false, false, false, false, false, false, false, false, false, false, false, false, false, false, false, false, false, false, false, false] rfl rfl (any_of HT_.out (by kernel_rfl)) (fun _ _ _ h => h) (Or.inl ⟨by rfl, ?_⟩) ?_ ?_
                                rotate_left
                                · intro w'
                                  go_simp
                                  with_reducible rfl
                                rotate_left
                                · simp only [Act.put, List.setIfInBounds_toArray, List.set_cons_zero, List.set_cons_succ, i64_w, i32_w]
                                  rfl
                                refine take_ (i := 4) (N := some 113) (v := ?_) (a' := ?_) #[true, true, true, true, true, false, false, false, false, false, false, false, false, false, false, false, false, false, false, false, false, false, false, false, false, false, false, false, false, false, false, false, false, false, false, false, false, false, false, false, false, false] rfl rfl (take_ofW HT_.out HW_.out (by kernel_rfl)) (fun _ _ _ h => h) (Or.inl ⟨by rfl, ?_⟩) hHeld ?_ ?_
                                rotate_left
                                · rintro w' ⟨s0, s1, s2, s3, s4, s5, s6, s7, s8, s9, s10, s11⟩
                                  go_simp
                                  with_reducible rfl
                                rotate_left
                                · simp only [Act.put, List.setIfInBounds_toArray, List.set_cons_zero, List.set_cons_succ, i64_w, i32_w]
                                  rfl
                                refine take_ (i := 6) (N := some 115) (v := ?_) (a' := ?_) #[true, true, true, true, true, false, true, false, false, false, false, false, false, false, false, false, false, false, false, false, false, false, false, false, false, false, false, false, false, false, false, false, false, false, false, false, false, false, false, false, false, false] rfl rfl (take_ofW HT_.out HW_.out (by kernel_rfl)) (fun _ _ _ h => h) (Or.inl ⟨by rfl, ?_⟩) hHeld ?_ ?_
                                rotate_left
                                · rintro w' ⟨s0, s1, s2, s3, s4, s5, s6, s7, s8, s9, s10, s11⟩
                                  go_simp
                                  with_reducible rfl
                                rotate_left
                                · simp only [Act.put, List.setIfInBounds_toArray, List.set_cons_zero, List.set_cons_succ, i64_w, i32_w]
                                  rfl
                                refine one_ (i := 5) (N := some 114) #[true, true, true, true, true, true, true, false, false, false, false, false, false, false, false, false, false, false, false, false, false, false, false, false, false, false, false, false, false, false, false, false, false, false, false, false, false, false, false, false, false, false] rfl rfl (one_of HT_.out (by kernel_rfl)) (by decide) (fun K hK => ?_)
                                refine goes_ Try.func12 (by kernel_rfl) rfl #[.agg #[.int .u8 t259, .int .u8 t260, .int .u8 t261, .int .u16 t262]] (by rfl) rfl rfl (by (try simp only [List.map_toArray, List.map_cons, List.map_nil]); first | done | rfl | (simp only [List.length_drop, List.length_take]; rfl)) ?_
                                with_reducible refine (greenscreenlaw09_as.calls t259 t260 t261 t262 t293 t294 t295 t296 _ A62.out).mono ?_
                                rintro e w77 ⟨rfl, hb⟩
                                refine ⟨_, rfl, ?_⟩
                                have n0_ := Aside0.mk (Kd.R_below (by (with_reducible repeat (first | apply Kd.R_alloc | apply Kd.R_drewN | apply Kd.R_drew)); exact HO_10.out) hb)
                                have n1_ := Aside0.mk (Kd.V_below (by (with_reducible repeat (first | apply Kd.V_alloc | apply Kd.V_drewN | apply Kd.V_drew)); exact HO_13.out) hb)
                                have n2_ := Aside0.mk (Kd.R_below (by (with_reducible repeat (first | apply Kd.R_alloc | apply Kd.R_drewN | apply Kd.R_drew)); exact HO_15.out) hb)
                                have n3_ := Aside0.mk (Kd.R_below (by (with_reducible repeat (first | apply Kd.R_alloc | apply Kd.R_drewN | apply Kd.R_drew)); exact HO_17.out) hb)
                                have n4_ := Aside0.mk (blk_below (g := gb257) (o := .cells #[.int .u8 a1_0, .int .u8 a1_1, .int .u8 a1_2, .int .u16 a1_3] 25 (0, 0)) (by (with_reducible repeat (first | refine blk_drewN ?_ _ | refine blk_drew ?_ | refine blk_alloc ?_ _)); exact BK257.out) hb)
                                have n5_ := Aside0.mk (blk_below (g := gb267) (o := .cells #[.int .u8 t259, .int .u8 t260, .int .u8 t261, .int .u16 t262] 25 (0, 0)) (by (with_reducible repeat (first | refine blk_drewN ?_ _ | refine blk_drew ?_ | refine blk_alloc ?_ _)); exact BK267.out) hb)
                                have n6_ := Aside0.mk (blk_below (g := gb276) (o := .cells #[.int .u8 t268, .int .u8 t269, .int .u8 t270, .int .i64 t271] 31 (0, 0)) (by (with_reducible repeat (first | refine blk_drewN ?_ _ | refine blk_drew ?_ | refine blk_alloc ?_ _)); exact BK276.out) hb)
                                have n7_ := Aside0.mk (below_step (by repeat (first | (with_reducible first | exact HB.out | apply below_alloc | apply pw_below_drewN | apply below_drew1 | refine below_set ?_ GE257.out | refine below_set ?_ GE267.out | refine below_set ?_ GE276.out) | exact HB.out)) hb)
                                clear HO_10
                                clear HO_13
                                clear HO_15
                                clear HO_17
                                clear BK257
                                clear BK267
                                clear BK276
                                clear HB
                                have HO_10 := n0_
                                have HO_13 := n1_
                                have HO_15 := n2_
                                have HO_17 := n3_
                                have BK257 := n4_
                                have BK267 := n5_
                                have BK276 := n6_
                                have HB := n7_
                                clear n0_ n1_ n2_ n3_ n4_ n5_ n6_ n7_
                                (try clear hb)
                                (try clear hb2)
                                (try clear hk)
                                (try clear hi)
                                obtain ⟨Ao78, co78, eo78⟩ := Kd.R_slice HO_10.out
                                (first | subst eo78 | (injection eo78 with f1_ f2_ f3_; have f4_ := f1_.symm; have f5_ := f3_.symm; clear f1_ f2_ f3_; subst f4_; subst f5_))
                                obtain ⟨Ao79, co79, eo79⟩ := Kd.V_slice HO_13.out
                                (first | subst eo79 | (injection eo79 with f1_ f2_ f3_; have f4_ := f1_.symm; have f5_ := f3_.symm; clear f1_ f2_ f3_; subst f4_; subst f5_))
                                refine hK.out _ _ ⟨(blk_cell BK267.out 0).trans rfl, (blk_cell BK267.out 1).trans rfl, (blk_cell BK267.out 2).trans rfl, (blk_cell BK267.out 3).trans rfl, (blk_cell BK276.out 0).trans rfl, (blk_cell BK276.out 1).trans rfl, (blk_cell BK276.out 2).trans rfl, (blk_cell BK276.out 3).trans rfl, (blk_cell BK257.out 0).trans rfl, (blk_cell BK257.out 1).trans rfl, (blk_cell BK257.out 2).trans rfl, (blk_cell BK257.out 3).trans rfl⟩ (fun hHeld => ?_)
                                clear hK K
                                refine norm_ (a' := ?_) ?_ ?_
                                rotate_left
                                · show Act.put _ (some 114) _ = _
                                  simp only [Act.put, List.setIfInBounds_toArray, List.set_cons_zero, List.set_cons_succ, i64_w, i32_w]
                                  rfl
                                refine pure_ (i := 7) (N := some 116) (v := ?_) (a' := ?_) #[true, true, true, true, true, true, true, true, false, false, false, false, false, false, false, false, false, false, false, false, false, false, false, false, false, false, false, false, false, false, false, false, false, false, false, false, false, false, false, false, false, false] rfl rfl (any_of HT_.out (by kernel_rfl)) (fun _ _ _ h => h) (Or.inl ⟨by rfl, ?_⟩) ?_ ?_
                                rotate_left
                                · intro w'
                                  go_simp
                                  with_reducible rfl
                                rotate_left
                                · simp only [Act.put, List.setIfInBounds_toArray, List.set_cons_zero, List.set_cons_succ, i64_w, i32_w]
                                  rfl
                                refine pure_ (i := 8) (N := some 117) (v := ?_) (a' := ?_) #[true, true, true, true, true, true, true, true, true, false, false, false, false, false, false, false, false, false, false, false, false, false, false, false, false, false, false, false, false, false, false, false, false, false, false, false, false, false, false, false, false, false] rfl rfl (any_of HT_.out (by kernel_rfl)) (fun _ _ _ h => h) (Or.inl ⟨by rfl, ?_⟩) ?_ ?_
                                rotate_left
                                · intro w'
                                  go_simp
                                  with_reducible rfl
                                rotate_left
                                · simp only [Act.put, List.setIfInBounds_toArray, List.set_cons_zero, List.set_cons_succ, i64_w, i32_w]
                                  rfl
                                refine pure_ (i := 9) (N := some 118) (v := ?_) (a' := ?_) #[true, true, true, true, true, true, true, true, true, true, false, false, false, false, false, false, false, false, false, false, false, false, false, false, false, false, false, false, false, false, false, false, false, false, false, false, false, false, false, false, false, false] rfl rfl (any_of HT_.out (by kernel_rfl)) (fun _ _ _ h => h) (Or.inl ⟨by rfl, ?_⟩) ?_ ?_
                                rotate_left
                                · intro w'
                                  go_simp
                                  with_reducible rfl
                                rotate_left
                                · simp only [Act.put, List.setIfInBounds_toArray, List.set_cons_zero, List.set_cons_succ, i64_w, i32_w]
                                  rfl
                                refine pure_ (i := 10) (N := some 119) (v := ?_) (a' := ?_) #[true, true, true, true, true, true, true, true, true, true, true, false, false, false, false, false, false, false, false, false, false, false, false, false, false, false, false, false, false, false, false, false, false, false, false, false, false, false, false, false, false, false] rfl rfl (any_of HT_.out (by kernel_rfl)) (fun _ _ _ h => h) (Or.inl ⟨by rfl, ?_⟩) ?_ ?_
                                rotate_left
                                · intro w'
                                  go_simp
                                  with_reducible rfl
                                rotate_left
                                · simp only [Act.put, List.setIfInBounds_toArray, List.set_cons_zero, List.set_cons_succ, i64_w, i32_w]
                                  rfl
                                refine pure_ (i := 11) (N := some 120) (v := ?_) (a' := ?_) #[true, true, true, true, true, true, true, true, true, true, true, true, false, false, false, false, false, false, false, false, false, false, false, false, false, false, false, false, false, false, false, false, false, false, false, false, false, false, false, false, false, false] rfl rfl (any_of HT_.out (by kernel_rfl)) (fun _ _ _ h => h) (Or.inl ⟨by rfl, ?_⟩) ?_ ?_
                                rotate_left
                                · intro w'
                                  go_simp
                                  with_reducible rfl
                                rotate_left
                                · simp only [Act.put, List.setIfInBounds_toArray, List.set_cons_zero, List.set_cons_succ, i64_w, i32_w]
                                  rfl
                                refine one_ (i := 12) (N := some 121) #[true, true, true, true, true, true, true, true, true, true, true, true, true, false, false, false, false, false, false, false, false, false, false, false, false, false, false, false, false, false, false, false, false, false, false, false, false, false, false, false, false, false] rfl rfl (one_of HT_.out (by kernel_rfl)) (by decide) (fun K hK => ?_)
                                refine goes_ Try.func14 (by kernel_rfl) rfl #[.slice Ao78 t263.length co78, .slice Ao79 t272.length co79] (by rfl) rfl rfl (by (try simp only [List.map_toArray, List.map_cons, List.map_nil]); first | done | rfl | (simp only [List.length_drop, List.length_take]; rfl)) ?_
                                with_reducible refine (greenscreenref01_Same.calls kj46 _ _ t263 _ _ t272 true _ ?side1 ?side2 ?side3 ?side4 A64.out).mono ?_
                                (case side1 => repeat (first | exact (Kd.R_reads' HO_10.out).2.2 | (with_reducible refine Kd.C_alloc ?_ _) | (with_reducible refine Kd.C_drewN ?_ _) | (with_reducible refine Kd.C_drew ?_)))
                                (case side2 => exact (Kd.R_reads' HO_10.out).2.1)
                                (case side3 => repeat (first | exact (Kd.V_reads' HO_13.out).2.2 | (with_reducible refine Kd.C_alloc ?_ _) | (with_reducible refine Kd.C_drewN ?_ _) | (with_reducible refine Kd.C_drew ?_)))
                                (case side4 => exact (Kd.V_reads' HO_13.out).2.1)
                                rintro e w' ⟨rfl, ⟨nd, rfl⟩⟩
                                refine ⟨_, rfl, ?_⟩
                                obtain ⟨Ao80, co80, eo80⟩ := Kd.R_slice HO_15.out
                                (first | subst eo80 | (injection eo80 with f1_ f2_ f3_; have f4_ := f1_.symm; have f5_ := f3_.symm; clear f1_ f2_ f3_; subst f4_; subst f5_))
                                obtain ⟨Ao81, co81, eo81⟩ := Kd.R_slice HO_17.out
                                (first | subst eo81 | (injection eo81 with f1_ f2_ f3_; have f4_ := f1_.symm; have f5_ := f3_.symm; clear f1_ f2_ f3_; subst f4_; subst f5_))
                                refine hK.out _ _ ⟨(blk_cell BK267.out 0).trans rfl, (blk_cell BK267.out 1).trans rfl, (blk_cell BK267.out 2).trans rfl, (blk_cell BK267.out 3).trans rfl, (blk_cell BK276.out 0).trans rfl, (blk_cell BK276.out 1).trans rfl, (blk_cell BK276.out 2).trans rfl, (blk_cell BK276.out 3).trans rfl, (blk_cell BK257.out 0).trans rfl, (blk_cell BK257.out 1).trans rfl, (blk_cell BK257.out 2).trans rfl, (blk_cell BK257.out 3).trans rfl⟩ (fun hHeld => ?_)
                                clear hK K
                                refine norm_ (a' := ?_) ?_ ?_
                                rotate_left
                                · show Act.put _ (some 121) _ = _
                                  simp only [Act.put, List.setIfInBounds_toArray, List.set_cons_zero, List.set_cons_succ, i64_w, i32_w]
                                  rfl
                                refine pure_ (i := 13) (N := some 122) (v := ?_) (a' := ?_) #[true, true, true, true, true, true, true, true, true, true, true, true, true, true, false, false, false, false, false, false, false, false, false, false, false, false, false, false, false, false, false, false, false, false, false, false, false, false, false, false, false, false] rfl rfl (any_of HT_.out (by kernel_rfl)) (fun _ _ _ h => h) (Or.inl ⟨by rfl, ?_⟩) ?_ ?_
                                rotate_left
                                · intro w'
                                  go_simp
                                  with_reducible rfl
                                rotate_left
                                · simp only [Act.put, List.setIfInBounds_toArray, List.set_cons_zero, List.set_cons_succ, i64_w, i32_w]
                                  rfl
                                refine pure_ (i := 14) (N := some 123) (v := ?_) (a' := ?_) #[true, true, true, true, true, true, true, true, true, true, true, true, true, true, true, false, false, false, false, false, false, false, false, false, false, false, false, false, false, false, false, false, false, false, false, false, false, false, false, false, false, false] rfl rfl (any_of HT_.out (by kernel_rfl)) (fun _ _ _ h => h) (Or.inl ⟨by rfl, ?_⟩) ?_ ?_
                                rotate_left
                                · intro w'
                                  go_simp
                                  with_reducible rfl
                                rotate_left
                                · simp only [Act.put, List.setIfInBounds_toArray, List.set_cons_zero, List.set_cons_succ, i64_w, i32_w]
                                  rfl
                                refine pure_ (i := 15) (N := some 124) (v := ?_) (a' := ?_) #[true, true, true, true, true, true, true, true, true, true, true, true, true, true, true, true, false, false, false, false, false, false, false, false, false, false, false, false, false, false, false, false, false, false, false, false, false, false, false, false, false, false] rfl rfl (any_of HT_.out (by kernel_rfl)) (fun _ _ _ h => h) (Or.inl ⟨by rfl, ?_⟩) ?_ ?_
                                rotate_left
                                · intro w'
                                  go_simp
                                  with_reducible rfl
                                rotate_left
                                · simp only [Act.put, List.setIfInBounds_toArray, List.set_cons_zero, List.set_cons_succ, i64_w, i32_w]
                                  rfl
                                refine pure_ (i := 16) (N := some 125) (v := ?_) (a' := ?_) #[true, true, true, true, true, true, true, true, true, true, true, true, true, true, true, true, true, false, false, false, false, false, false, false, false, false, false, false, false, false, false, false, false, false, false, false, false, false, false, false, false, false] rfl rfl (any_of HT_.out (by kernel_rfl)) (fun _ _ _ h => h) (Or.inl ⟨by rfl, ?_⟩) ?_ ?_
                                rotate_left
                                · intro w'
                                  go_simp
                                  with_reducible rfl
                                rotate_left
                                · simp only [Act.put, List.setIfInBounds_toArray, List.set_cons_zero, List.set_cons_succ, i64_w, i32_w]
                                  rfl
                                refine pure_ (i := 17) (N := some 126) (v := ?_) (a' := ?_) #[true, true, true, true, true, true, true, true, true, true, true, true, true, true, true, true, true, true, false, false, false, false, false, false, false, false, false, false, false, false, false, false, false, false, false, false, false, false, false, false, false, false] rfl rfl (any_of HT_.out (by kernel_rfl)) (fun _ _ _ h => h) (Or.inl ⟨by rfl, ?_⟩) ?_ ?_
                                rotate_left
                                · intro w'
                                  go_simp
                                  with_reducible rfl
                                rotate_left
                                · simp only [Act.put, List.setIfInBounds_toArray, List.set_cons_zero, List.set_cons_succ, i64_w, i32_w]
                                  rfl
                                refine pure_ (i := 18) (N := some 127) (v := ?_) (a' := ?_) #[true, true, true, true, true, true, true, true, true, true, true, true, true, true, true, true, true, true, true, false, false, false, false, false, false, false, false, false, false, false, false, false, false, false, false, false, false, false, false, false, false, false] rfl rfl (any_of HT_.out (by kernel_rfl)) (fun _ _ _ h => h) (Or.inl ⟨by rfl, ?_⟩) ?_ ?_
                                rotate_left
                                · intro w'
                                  go_simp
                                  with_reducible rfl
                                rotate_left
                                · simp only [Act.put, List.setIfInBounds_toArray, List.set_cons_zero, List.set_cons_succ, i64_w, i32_w]
                                  rfl
                                refine pure_ (i := 19) (N := some 128) (v := ?_) (a' := ?_) #[true, true, true, true, true, true, true, true, true, true, true, true, true, true, true, true, true, true, true, true, false, false, false, false, false, false, false, false, false, false, false, false, false, false, false, false, false, false, false, false, false, false] rfl rfl (any_of HT_.out (by kernel_rfl)) (fun _ _ _ h => h) (Or.inl ⟨by rfl, ?_⟩) ?_ ?_
                                rotate_left
                                · intro w'
                                  go_simp
                                  with_reducible rfl
                                rotate_left
                                · simp only [Act.put, List.setIfInBounds_toArray, List.set_cons_zero, List.set_cons_succ, i64_w, i32_w]
                                  rfl
                                refine pure_ (i := 20) (N := some 129) (v := ?_) (a' := ?_) #[true, true, true, true, true, true, true, true, true, true, true, true, true, true, true, true, true, true, true, true, true, false, false, false, false, false, false, false, false, false, false, false, false, false, false, false, false, false, false, false, false, false] rfl rfl (any_of HT_.out (by kernel_rfl)) (fun _ _ _ h => h) (Or.inl ⟨by rfl, ?_⟩) ?_ ?_
                                rotate_left
                                · intro w'
                                  go_simp
                                  with_reducible rfl
                                rotate_left
                                · simp only [Act.put, List.setIfInBounds_toArray, List.set_cons_zero, List.set_cons_succ, i64_w, i32_w]
                                  rfl
                                refine pure_ (i := 21) (N := some 130) (v := ?_) (a' := ?_) #[true, true, true, true, true, true, true, true, true, true, true, true, true, true, true, true, true, true, true, true, true, true, false, false, false, false, false, false, false, false, false, false, false, false, false, false, false, false, false, false, false, false] rfl rfl (any_of HT_.out (by kernel_rfl)) (fun _ _ _ h => h) (Or.inl ⟨by rfl, ?_⟩) ?_ ?_
                                rotate_left
                                · intro w'
                                  go_simp
                                  with_reducible rfl
                                rotate_left
                                · simp only [Act.put, List.setIfInBounds_toArray, List.set_cons_zero, List.set_cons_succ, i64_w, i32_w]
                                  rfl
                                refine one_ (i := 22) (N := some 131) #[true, true, true, true, true, true, true, true, true, true, true, true, true, true, true, true, true, true, true, true, true, true, true, false, false, false, false, false, false, false, false, false, false, false, false, false, false, false, false, false, false, false] rfl rfl (one_of HT_.out (by kernel_rfl)) (by decide) (fun K hK => ?_)
                                refine goes_ Try.func14 (by kernel_rfl) rfl #[.slice Ao80 t277.length co80, .slice Ao81 t285.length co81] (by rfl) rfl rfl (by (try simp only [List.map_toArray, List.map_cons, List.map_nil]); first | done | rfl | (simp only [List.length_drop, List.length_take]; rfl)) ?_
                                with_reducible refine (greenscreenref01_Same.calls kj46 _ _ t277 _ _ t285 true _ ?side1 ?side2 ?side3 ?side4 A67.out).mono ?_
                                (case side1 => repeat (first | exact (Kd.R_reads' HO_15.out).2.2 | (with_reducible refine Kd.C_alloc ?_ _) | (with_reducible refine Kd.C_drewN ?_ _) | (with_reducible refine Kd.C_drew ?_)))
                                (case side2 => exact (Kd.R_reads' HO_15.out).2.1)
                                (case side3 => repeat (first | exact (Kd.R_reads' HO_17.out).2.2 | (with_reducible refine Kd.C_alloc ?_ _) | (with_reducible refine Kd.C_drewN ?_ _) | (with_reducible refine Kd.C_drew ?_)))
                                (case side4 => exact (Kd.R_reads' HO_17.out).2.1)
                                rintro e w' ⟨rfl, ⟨nd, rfl⟩⟩
                                refine ⟨_, rfl, ?_⟩
                                refine hK.out _ _ ⟨(blk_cell BK267.out 0).trans rfl, (blk_cell BK267.out 1).trans rfl, (blk_cell BK267.out 2).trans rfl, (blk_cell BK267.out 3).trans rfl, (blk_cell BK276.out 0).trans rfl, (blk_cell BK276.out 1).trans rfl, (blk_cell BK276.out 2).trans rfl, (blk_cell BK276.out 3).trans rfl, (blk_cell BK257.out 0).trans rfl, (blk_cell BK257.out 1).trans rfl, (blk_cell BK257.out 2).trans rfl, (blk_cell BK257.out 3).trans rfl⟩ (fun hHeld => ?_)
                                clear hK K
                                refine norm_ (a' := ?_) ?_ ?_
                                rotate_left
                                · show Act.put _ (some 131) _ = _
                                  simp only [Act.put, List.setIfInBounds_toArray, List.set_cons_zero, List.set_cons_succ, i64_w, i32_w]
                                  rfl
                                refine pure_ (i := 23) (N := some 132) (v := ?_) (a' := ?_) #[true, true, true, true, true, true, true, true, true, true, true, true, true, true, true, true, true, true, true, true, true, true, true, true, false, false, false, false, false, false, false, false, false, false, false, false, false, false, false, false, false, false] rfl rfl (any_of HT_.out (by kernel_rfl)) (fun _ _ _ h => h) (Or.inl ⟨by rfl, ?_⟩) ?_ ?_
                                rotate_left
                                · intro w'
                                  go_simp
                                  with_reducible rfl
                                rotate_left
                                · simp only [Act.put, List.setIfInBounds_toArray, List.set_cons_zero, List.set_cons_succ, i64_w, i32_w]
                                  rfl
                                refine pure_ (i := 24) (N := some 133) (v := ?_) (a' := ?_) #[true, true, true, true, true, true, true, true, true, true, true, true, true, true, true, true, true, true, true, true, true, true, true, true, true, false, false, false, false, false, false, false, false, false, false, false, false, false, false, false, false, false] rfl rfl (any_of HT_.out (by kernel_rfl)) (fun _ _ _ h => h) (Or.inl ⟨by rfl, ?_⟩) ?_ ?_
                                rotate_left
                                · intro w'
                                  go_simp
                                  with_reducible rfl
                                rotate_left
                                · simp only [Act.put, List.setIfInBounds_toArray, List.set_cons_zero, List.set_cons_succ, i64_w, i32_w]
                                  rfl
                                refine pure_ (i := 25) (N := some 134) (v := ?_) (a' := ?_) #[true, true, true, true, true, true, true, true, true, true, true, true, true, true, true, true, true, true, true, true, true, true, true, true, true, true, false, false, false, false, false, false, false, false, false, false, false, false, false, false, false, false] rfl rfl (any_of HT_.out (by kernel_rfl)) (fun _ _ _ h => h) (Or.inl ⟨by rfl, ?_⟩) ?_ ?_
                                rotate_left
                                · intro w'
                                  go_simp
                                  with_reducible rfl
                                rotate_left
                                · simp only [Act.put, List.setIfInBounds_toArray, List.set_cons_zero, List.set_cons_succ, i64_w, i32_w]
                                  rfl
                                refine pure_ (i := 27) (N := some 136) (v := ?_) (a' := ?_) #[true, true, true, true, true, true, true, true, true, true, true, true, true, true, true, true, true, true, true, true, true, true, true, true, true, true, false, true, false, false, false, false, false, false, false, false, false, false, false, false, false, false] rfl rfl (any_of HT_.out (by kernel_rfl)) (fun _ _ _ h => h) (Or.inl ⟨by rfl, ?_⟩) ?_ ?_
                                rotate_left
                                · intro w'
                                  go_simp
                                  with_reducible rfl
                                rotate_left
                                · simp only [Act.put, List.setIfInBounds_toArray, List.set_cons_zero, List.set_cons_succ, i64_w, i32_w]
                                  rfl
                                refine one_ (i := 26) (N := some 135) #[true, true, true, true, true, true, true, true, true, true, true, true, true, true, true, true, true, true, true, true, true, true, true, true, true, true, true, true, false, false, false, false, false, false, false, false, false, false, false, false, false, false] rfl rfl (one_of HT_.out (by kernel_rfl)) (by decide) (fun K hK => ?_)
                                refine goes_ Try.func15 (by kernel_rfl) rfl #[.int .i64 a2] (by rfl) rfl rfl (by (try simp only [List.map_toArray, List.map_cons, List.map_nil]); first | done | rfl | (simp only [List.length_drop, List.length_take]; rfl)) ?_
                                with_reducible refine (header_Code.calls a2 t299 _ A69.out).mono ?_
                                rintro e w' ⟨rfl, ⟨nd, rfl⟩⟩
                                refine ⟨_, rfl, ?_⟩
                                refine hK.out _ _ ⟨(blk_cell BK267.out 0).trans rfl, (blk_cell BK267.out 1).trans rfl, (blk_cell BK267.out 2).trans rfl, (blk_cell BK267.out 3).trans rfl, (blk_cell BK276.out 0).trans rfl, (blk_cell BK276.out 1).trans rfl, (blk_cell BK276.out 2).trans rfl, (blk_cell BK276.out 3).trans rfl, (blk_cell BK257.out 0).trans rfl, (blk_cell BK257.out 1).trans rfl, (blk_cell BK257.out 2).trans rfl, (blk_cell BK257.out 3).trans rfl⟩ (fun hHeld => ?_)
                                clear hK K
                                refine norm_ (a' := ?_) ?_ ?_
                                rotate_left
                                · show Act.put _ (some 135) _ = _
                                  simp only [Act.put, List.setIfInBounds_toArray, List.set_cons_zero, List.set_cons_succ, i64_w, i32_w]
                                  rfl
                                refine one_ (i := 28) (N := some 137) #[true, true, true, true, true, true, true, true, true, true, true, true, true, true, true, true, true, true, true, true, true, true, true, true, true, true, true, true, true, false, false, false, false, false, false, false, false, false, false, false, false, false] rfl rfl (one_of HT_.out (by kernel_rfl)) (by decide) (fun K hK => ?_)
                                refine goes_ Try.func16 (by kernel_rfl) rfl #[.int .i64 a2] (by rfl) rfl rfl (by (try simp only [List.map_toArray, List.map_cons, List.map_nil]); first | done | rfl | (simp only [List.length_drop, List.length_take]; rfl)) ?_
                                with_reducible refine (greenscreenref09_Code.calls a2 t300 _ A70.out).mono ?_
                                rintro e w' ⟨rfl, ⟨nd, rfl⟩⟩
                                refine ⟨_, rfl, ?_⟩
                                refine hK.out _ _ ⟨(blk_cell BK267.out 0).trans rfl, (blk_cell BK267.out 1).trans rfl, (blk_cell BK267.out 2).trans rfl, (blk_cell BK267.out 3).trans rfl, (blk_cell BK276.out 0).trans rfl, (blk_cell BK276.out 1).trans rfl, (blk_cell BK276.out 2).trans rfl, (blk_cell BK276.out 3).trans rfl, (blk_cell BK257.out 0).trans rfl, (blk_cell BK257.out 1).trans rfl, (blk_cell BK257.out 2).trans rfl, (blk_cell BK257.out 3).trans rfl⟩ (fun hHeld => ?_)
                                clear hK K
                                refine norm_ (a' := ?_) ?_ ?_
                                rotate_left
                                · show Act.put _ (some 137) _ = _
                                  simp only [Act.put, List.setIfInBounds_toArray, List.set_cons_zero, List.set_cons_succ, i64_w, i32_w]
                                  rfl
                                refine pure_ (i := 29) (N := some 138) (v := ?_) (a' := ?_) #[true, true, true, true, true, true, true, true, true, true, true, true, true, true, true, true, true, true, true, true, true, true, true, true, true, true, true, true, true, true, false, false, false, false, false, false, false, false, false, false, false, false] rfl rfl (any_of HT_.out (by kernel_rfl)) (fun _ _ _ h => h) (Or.inl ⟨by rfl, ?_⟩) ?_ ?_
                                rotate_left
                                · intro w'
                                  go_simp
                                  with_reducible rfl
                                rotate_left
                                · simp only [Act.put, List.setIfInBounds_toArray, List.set_cons_zero, List.set_cons_succ, i64_w, i32_w]
                                  rfl
                                refine pure_ (i := 30) (N := some 139) (v := ?_) (a' := ?_) #[true, true, true, true, true, true, true, true, true, true, true, true, true, true, true, true, true, true, true, true, true, true, true, true, true, true, true, true, true, true, true, false, false, false, false, false, false, false, false, false, false, false] rfl rfl (any_of HT_.out (by kernel_rfl)) (fun _ _ _ h => h) (Or.inl ⟨by rfl, ?_⟩) ?_ ?_
                                rotate_left
                                · intro w'
                                  go_simp
                                  with_reducible rfl
                                rotate_left
                                · simp only [Act.put, List.setIfInBounds_toArray, List.set_cons_zero, List.set_cons_succ, i64_w, i32_w]
                                  rfl
                                refine pure_ (i := 31) (N := some 140) (v := ?_) (a' := ?_) #[true, true, true, true, true, true, true, true, true, true, true, true, true, true, true, true, true, true, true, true, true, true, true, true, true, true, true, true, true, true, true, true, false, false, false, false, false, false, false, false, false, false] rfl rfl (any_of HT_.out (by kernel_rfl)) (fun _ _ _ h => h) (Or.inl ⟨by rfl, ?_⟩) ?_ ?_
                                rotate_left
                                · intro w'
                                  go_simp
                                  with_reducible rfl
                                rotate_left
                                · simp only [Act.put, List.setIfInBounds_toArray, List.set_cons_zero, List.set_cons_succ, i64_w, i32_w]
                                  rfl
                                refine pure_ (i := 33) (N := some 142) (v := ?_) (a' := ?_) #[true, true, true, true, true, true, true, true, true, true, true, true, true, true, true, true, true, true, true, true, true, true, true, true, true, true, true, true, true, true, true, true, false, true, false, false, false, false, false, false, false, false] rfl rfl (any_of HT_.out (by kernel_rfl)) (fun _ _ _ h => h) (Or.inl ⟨by rfl, ?_⟩) ?_ ?_
                                rotate_left
                                · intro w'
                                  go_simp
                                  with_reducible rfl
                                rotate_left
                                · simp only [Act.put, List.setIfInBounds_toArray, List.set_cons_zero, List.set_cons_succ, i64_w, i32_w]
                                  rfl
                                refine pure_ (i := 37) (N := some 146) (v := ?_) (a' := ?_) #[true, true, true, true, true, true, true, true, true, true, true, true, true, true, true, true, true, true, true, true, true, true, true, true, true, true, true, true, true, true, true, true, false, true, false, false, false, true, false, false, false, false] rfl rfl (any_of HT_.out (by kernel_rfl)) (fun _ _ _ h => h) (Or.inl ⟨by rfl, ?_⟩) ?_ ?_
                                rotate_left
                                · intro w'
                                  go_simp
                                  with_reducible rfl
                                rotate_left
                                · simp only [Act.put, List.setIfInBounds_toArray, List.set_cons_zero, List.set_cons_succ, i64_w, i32_w]
                                  rfl
                                refine take_ (i := 32) (N := some 141) (v := ?_) (a' := ?_) #[true, true, true, true, true, true, true, true, true, true, true, true, true, true, true, true, true, true, true, true, true, true, true, true, true, true, true, true, true, true, true, true, true, true, false, false, false, true, false, false, false, false] rfl rfl (take_ofW HT_.out HW_.out (by kernel_rfl)) (fun _ _ _ h => h) (Or.inl ⟨by rfl, ?_⟩) hHeld ?_ ?_
                                rotate_left
                                · rintro w' ⟨s0, s1, s2, s3, s4, s5, s6, s7, s8, s9, s10, s11⟩
                                  go_simp
                                  with_reducible rfl
                                rotate_left
                                · simp only [Act.put, List.setIfInBounds_toArray, List.set_cons_zero, List.set_cons_succ, i64_w, i32_w]
                                  rfl
                                refine take_ (i := 35) (N := some 144) (v := ?_) (a' := ?_) #[true, true, true, true, true, true, true, true, true, true, true, true, true, true, true, true, true, true, true, true, true, true, true, true, true, true, true, true, true, true, true, true, true, true, false, true, false, true, false, false, false, false] rfl rfl (take_ofW HT_.out HW_.out (by kernel_rfl)) (fun _ _ _ h => h) (Or.inl ⟨by rfl, ?_⟩) hHeld ?_ ?_
                                rotate_left
                                · rintro w' ⟨s0, s1, s2, s3, s4, s5, s6, s7, s8, s9, s10, s11⟩
                                  go_simp
                                  with_reducible rfl
                                rotate_left
                                · simp only [Act.put, List.setIfInBounds_toArray, List.set_cons_zero, List.set_cons_succ, i64_w, i32_w]
                                  rfl
                                refine one_ (i := 34) (N := some 143) #[true, true, true, true, true, true, true, true, true, true, true, true, true, true, true, true, true, true, true, true, true, true, true, true, true, true, true, true, true, true, true, true, true, true, true, true, false, true, false, false, false, false] rfl rfl (one_of HT_.out (by kernel_rfl)) (by decide) (fun K hK => ?_)
                                refine goes_ Try.func17 (by kernel_rfl) rfl #[.agg #[.int .u8 a1_0, .int .u8 a1_1, .int .u8 a1_2, .int .u16 a1_3], .slice A3 l3.length c3] (by rfl) rfl rfl (by (try simp only [List.map_toArray, List.map_cons, List.map_nil]); first | done | rfl | (simp only [List.length_drop, List.length_take]; rfl)) ?_
                                with_reducible refine (header_Write.calls a1_0 a1_1 a1_2 a1_3 _ _ l3 t301 _ ?side1 ?side2 A72.out).mono ?_
                                (case side1 => repeat (first | exact (Kd.C_below HR3.out (by repeat (first | (with_reducible first | exact HB.out | apply below_alloc | apply pw_below_drewN | apply below_drew1 | refine below_set ?_ GE257.out | refine below_set ?_ GE267.out | refine below_set ?_ GE276.out) | exact HB.out))) | (with_reducible refine Kd.C_alloc ?_ _) | (with_reducible refine Kd.C_drewN ?_ _) | (with_reducible refine Kd.C_drew ?_)))
                                (case side2 => exact HC3.out)
                                rintro e w82 ⟨v302, rfl, ho0, hb⟩
                                refine ⟨_, rfl, ?_⟩
                                have n0_ := Aside0.mk (Kd.R_elder' (by (with_reducible repeat (first | apply Kd.R_alloc | apply Kd.R_drewN | apply Kd.R_drew)); exact HO_10.out) (Kd.R_base ho0) hb)
                                have n1_ := Aside0.mk (Kd.V_elder' (by (with_reducible repeat (first | apply Kd.V_alloc | apply Kd.V_drewN | apply Kd.V_drew)); exact HO_13.out) (Kd.R_base ho0) hb)
                                have n2_ := Aside0.mk (Kd.R_elder' (by (with_reducible repeat (first | apply Kd.R_alloc | apply Kd.R_drewN | apply Kd.R_drew)); exact HO_15.out) (Kd.R_base ho0) hb)
                                have n3_ := Aside0.mk (Kd.R_elder' (by (with_reducible repeat (first | apply Kd.R_alloc | apply Kd.R_drewN | apply Kd.R_drew)); exact HO_17.out) (Kd.R_base ho0) hb)
                                have n4_ := Aside0.mk (Kd.R_lower (Kd.R_new' (Kd.R_new' (Kd.R_new' ho0 (Kd.R_lt (by (with_reducible repeat (first | apply Kd.R_alloc | apply Kd.R_drewN | apply Kd.R_drew)); exact HO_10.out))) (Kd.R_lt (by (with_reducible repeat (first | apply Kd.R_alloc | apply Kd.R_drewN | apply Kd.R_drew)); exact HO_15.out))) (Kd.R_lt (by (with_reducible repeat (first | apply Kd.R_alloc | apply Kd.R_drewN | apply Kd.R_drew)); exact HO_17.out))) (below_size (by repeat (first | (with_reducible first | exact HB.out | apply below_alloc | apply pw_below_drewN | apply below_drew1 | refine below_set ?_ GE257.out | refine below_set ?_ GE267.out | refine below_set ?_ GE276.out) | exact HB.out))))
                                have n5_ := Aside0.mk (blk_below (g := gb257) (o := .cells #[.int .u8 a1_0, .int .u8 a1_1, .int .u8 a1_2, .int .u16 a1_3] 25 (0, 0)) (by (with_reducible repeat (first | refine blk_drewN ?_ _ | refine blk_drew ?_ | refine blk_alloc ?_ _)); exact BK257.out) hb)
                                have n6_ := Aside0.mk (blk_below (g := gb267) (o := .cells #[.int .u8 t259, .int .u8 t260, .int .u8 t261, .int .u16 t262] 25 (0, 0)) (by (with_reducible repeat (first | refine blk_drewN ?_ _ | refine blk_drew ?_ | refine blk_alloc ?_ _)); exact BK267.out) hb)
                                have n7_ := Aside0.mk (blk_below (g := gb276) (o := .cells #[.int .u8 t268, .int .u8 t269, .int .u8 t270, .int .i64 t271] 31 (0, 0)) (by (with_reducible repeat (first | refine blk_drewN ?_ _ | refine blk_drew ?_ | refine blk_alloc ?_ _)); exact BK276.out) hb)
                                have n8_ := Aside0.mk (below_step (by repeat (first | (with_reducible first | exact HB.out | apply below_alloc | apply pw_below_drewN | apply below_drew1 | refine below_set ?_ GE257.out | refine below_set ?_ GE267.out | refine below_set ?_ GE276.out) | exact HB.out)) hb)
                                clear HO_10
                                clear HO_13
                                clear HO_15
                                clear HO_17
                                clear BK257
                                clear BK267
                                clear BK276
                                clear HB
                                have HO_10 := n0_
                                have HO_13 := n1_
                                have HO_15 := n2_
                                have HO_17 := n3_
                                have HO303 := n4_
                                have BK257 := n5_
                                have BK267 := n6_
                                have BK276 := n7_
                                have HB := n8_
                                clear n0_ n1_ n2_ n3_ n4_ n5_ n6_ n7_ n8_
                                (try clear hb)
                                (try clear hb2)
                                (try clear hk)
                                (try clear hi)
                                (try clear ho0)
                                refine hK.out _ _ ⟨(blk_cell BK267.out 0).trans rfl, (blk_cell BK267.out 1).trans rfl, (blk_cell BK267.out 2).trans rfl, (blk_cell BK267.out 3).trans rfl, (blk_cell BK276.out 0).trans rfl, (blk_cell BK276.out 1).trans rfl, (blk_cell BK276.out 2).trans rfl, (blk_cell BK276.out 3).trans rfl, (blk_cell BK257.out 0).trans rfl, (blk_cell BK257.out 1).trans rfl, (blk_cell BK257.out 2).trans rfl, (blk_cell BK257.out 3).trans rfl⟩ (fun hHeld => ?_)
                                clear hK K
                                refine norm_ (a' := ?_) ?_ ?_
                                rotate_left
                                · show Act.put _ (some 143) _ = _
                                  simp only [Act.put, List.setIfInBounds_toArray, List.set_cons_zero, List.set_cons_succ, i64_w, i32_w]
                                  rfl
                                refine one_ (i := 36) (N := some 145) #[true, true, true, true, true, true, true, true, true, true, true, true, true, true, true, true, true, true, true, true, true, true, true, true, true, true, true, true, true, true, true, true, true, true, true, true, true, true, false, false, false, false] rfl rfl (one_of HT_.out (by kernel_rfl)) (by decide) (fun K hK => ?_)
                                refine goes_ Try.func12 (by kernel_rfl) rfl #[.agg #[.int .u8 a1_0, .int .u8 a1_1, .int .u8 a1_2, .int .u16 a1_3]] (by rfl) rfl rfl (by (try simp only [List.map_toArray, List.map_cons, List.map_nil]); first | done | rfl | (simp only [List.length_drop, List.length_take]; rfl)) ?_
                                with_reducible refine (greenscreenlaw09_as.calls a1_0 a1_1 a1_2 a1_3 t304 t305 t306 t307 _ A73.out).mono ?_
                                rintro e w83 ⟨rfl, hb⟩
                                refine ⟨_, rfl, ?_⟩
                                have n0_ := Aside0.mk (Kd.R_below (by (with_reducible repeat (first | apply Kd.R_alloc | apply Kd.R_drewN | apply Kd.R_drew)); exact HO_10.out) hb)
                                have n1_ := Aside0.mk (Kd.V_below (by (with_reducible repeat (first | apply Kd.V_alloc | apply Kd.V_drewN | apply Kd.V_drew)); exact HO_13.out) hb)
                                have n2_ := Aside0.mk (Kd.R_below (by (with_reducible repeat (first | apply Kd.R_alloc | apply Kd.R_drewN | apply Kd.R_drew)); exact HO_15.out) hb)
                                have n3_ := Aside0.mk (Kd.R_below (by (with_reducible repeat (first | apply Kd.R_alloc | apply Kd.R_drewN | apply Kd.R_drew)); exact HO_17.out) hb)
                                have n4_ := Aside0.mk (Kd.R_below (by (with_reducible repeat (first | apply Kd.R_alloc | apply Kd.R_drewN | apply Kd.R_drew)); exact HO303.out) hb)
                                have n5_ := Aside0.mk (blk_below (g := gb257) (o := .cells #[.int .u8 a1_0, .int .u8 a1_1, .int .u8 a1_2, .int .u16 a1_3] 25 (0, 0)) (by (with_reducible repeat (first | refine blk_drewN ?_ _ | refine blk_drew ?_ | refine blk_alloc ?_ _)); exact BK257.out) hb)
                                have n6_ := Aside0.mk (blk_below (g := gb267) (o := .cells #[.int .u8 t259, .int .u8 t260, .int .u8 t261, .int .u16 t262] 25 (0, 0)) (by (with_reducible repeat (first | refine blk_drewN ?_ _ | refine blk_drew ?_ | refine blk_alloc ?_ _)); exact BK267.out) hb)
                                have n7_ := Aside0.mk (blk_below (g := gb276) (o := .cells #[.int .u8 t268, .int .u8 t269, .int .u8 t270, .int .i64 t271] 31 (0, 0)) (by (with_reducible repeat (first | refine blk_drewN ?_ _ | refine blk_drew ?_ | refine blk_alloc ?_ _)); exact BK276.out) hb)
                                have n8_ := Aside0.mk (below_step (by repeat (first | (with_reducible first | exact HB.out | apply below_alloc | apply pw_below_drewN | apply below_drew1 | refine below_set ?_ GE257.out | refine below_set ?_ GE267.out | refine below_set ?_ GE276.out) | exact HB.out)) hb)
                                clear HO_10
                                clear HO_13
                                clear HO_15
                                clear HO_17
                                clear HO303
                                clear BK257
                                clear BK267
                                clear BK276
                                clear HB
                                have HO_10 := n0_
                                have HO_13 := n1_
                                have HO_15 := n2_
                                have HO_17 := n3_
                                have HO303 := n4_
                                have BK257 := n5_
                                have BK267 := n6_
                                have BK276 := n7_
                                have HB := n8_
                                clear n0_ n1_ n2_ n3_ n4_ n5_ n6_ n7_ n8_
                                (try clear hb)
                                (try clear hb2)
                                (try clear hk)
                                (try clear hi)
                                refine hK.out _ _ ⟨(blk_cell BK267.out 0).trans rfl, (blk_cell BK267.out 1).trans rfl, (blk_cell BK267.out 2).trans rfl, (blk_cell BK267.out 3).trans rfl, (blk_cell BK276.out 0).trans rfl, (blk_cell BK276.out 1).trans rfl, (blk_cell BK276.out 2).trans rfl, (blk_cell BK276.out 3).trans rfl, (blk_cell BK257.out 0).trans rfl, (blk_cell BK257.out 1).trans rfl, (blk_cell BK257.out 2).trans rfl, (blk_cell BK257.out 3).trans rfl⟩ (fun hHeld => ?_)
                                clear hK K
                                refine norm_ (a' := ?_) ?_ ?_
                                rotate_left
                                · show Act.put _ (some 145) _ = _
                                  simp only [Act.put, List.setIfInBounds_toArray, List.set_cons_zero, List.set_cons_succ, i64_w, i32_w]
                                  rfl
                                refine one_ (i := 38) (N := some 147) #[true, true, true, true, true, true, true, true, true, true, true, true, true, true, true, true, true, true, true, true, true, true, true, true, true, true, true, true, true, true, true, true, true, true, true, true, true, true, true, false, false, false] rfl rfl (one_of HT_.out (by kernel_rfl)) (by decide) (fun K hK => ?_)
                                refine goes_ Try.func18 (by kernel_rfl) rfl #[.agg #[.int .u8 t304, .int .u8 t305, .int .u8 t306, .int .i64 t307], .slice A3 l3.length c3] (by rfl) rfl rfl (by (try simp only [List.map_toArray, List.map_cons, List.map_nil]); first | done | rfl | (simp only [List.length_drop, List.length_take]; rfl)) ?_
                                with_reducible refine (greenscreenref09_Write.calls kj46 t304 t305 t306 t307 (fun k_ => k_ < w.heap.size) _ _ l3 t308 _ ?side1 A74.out).mono ?_
                                (case side1 => exact Kd.V_mk HC3.out (Kd.F_below (Kd.C_F (Kd.heap_int .u8) HR3.out) (by repeat (first | (with_reducible first | exact HB.out | apply below_alloc | apply pw_below_drewN | apply below_drew1 | refine below_set ?_ GE257.out | refine below_set ?_ GE267.out | refine below_set ?_ GE276.out) | exact HB.out))))
                                rintro e w84 ⟨v309, rfl, ho0, hb⟩
                                refine ⟨_, rfl, ?_⟩
                                have n0_ := Aside0.mk (Kd.R_elder' (by (with_reducible repeat (first | apply Kd.R_alloc | apply Kd.R_drewN | apply Kd.R_drew)); exact HO_10.out) (Kd.R_base ho0) hb)
                                have n1_ := Aside0.mk (Kd.V_elder' (by (with_reducible repeat (first | apply Kd.V_alloc | apply Kd.V_drewN | apply Kd.V_drew)); exact HO_13.out) (Kd.R_base ho0) hb)
                                have n2_ := Aside0.mk (Kd.R_elder' (by (with_reducible repeat (first | apply Kd.R_alloc | apply Kd.R_drewN | apply Kd.R_drew)); exact HO_15.out) (Kd.R_base ho0) hb)
                                have n3_ := Aside0.mk (Kd.R_elder' (by (with_reducible repeat (first | apply Kd.R_alloc | apply Kd.R_drewN | apply Kd.R_drew)); exact HO_17.out) (Kd.R_base ho0) hb)
                                have n4_ := Aside0.mk (Kd.R_elder' (by (with_reducible repeat (first | apply Kd.R_alloc | apply Kd.R_drewN | apply Kd.R_drew)); exact HO303.out) (Kd.R_base ho0) hb)
                                have n5_ := Aside0.mk (Kd.R_lower (Kd.R_new' (Kd.R_new' (Kd.R_new' (Kd.R_new' (Kd.R_mono (ok' := fun k_ => True) ho0 (fun _ hk_ => trivial)) (Kd.R_lt (by (with_reducible repeat (first | apply Kd.R_alloc | apply Kd.R_drewN | apply Kd.R_drew)); exact HO_10.out))) (Kd.R_lt (by (with_reducible repeat (first | apply Kd.R_alloc | apply Kd.R_drewN | apply Kd.R_drew)); exact HO_15.out))) (Kd.R_lt (by (with_reducible repeat (first | apply Kd.R_alloc | apply Kd.R_drewN | apply Kd.R_drew)); exact HO_17.out))) (Kd.R_lt (by (with_reducible repeat (first | apply Kd.R_alloc | apply Kd.R_drewN | apply Kd.R_drew)); exact HO303.out))) (below_size (by repeat (first | (with_reducible first | exact HB.out | apply below_alloc | apply pw_below_drewN | apply below_drew1 | refine below_set ?_ GE257.out | refine below_set ?_ GE267.out | refine below_set ?_ GE276.out) | exact HB.out))))
                                have n6_ := Aside0.mk (blk_below (g := gb257) (o := .cells #[.int .u8 a1_0, .int .u8 a1_1, .int .u8 a1_2, .int .u16 a1_3] 25 (0, 0)) (by (with_reducible repeat (first | refine blk_drewN ?_ _ | refine blk_drew ?_ | refine blk_alloc ?_ _)); exact BK257.out) hb)
                                have n7_ := Aside0.mk (blk_below (g := gb267) (o := .cells #[.int .u8 t259, .int .u8 t260, .int .u8 t261, .int .u16 t262] 25 (0, 0)) (by (with_reducible repeat (first | refine blk_drewN ?_ _ | refine blk_drew ?_ | refine blk_alloc ?_ _)); exact BK267.out) hb)
                                have n8_ := Aside0.mk (blk_below (g := gb276) (o := .cells #[.int .u8 t268, .int .u8 t269, .int .u8 t270, .int .i64 t271] 31 (0, 0)) (by (with_reducible repeat (first | refine blk_drewN ?_ _ | refine blk_drew ?_ | refine blk_alloc ?_ _)); exact BK276.out) hb)
                                have n9_ := Aside0.mk (below_step (by repeat (first | (with_reducible first | exact HB.out | apply below_alloc | apply pw_below_drewN | apply below_drew1 | refine below_set ?_ GE257.out | refine below_set ?_ GE267.out | refine below_set ?_ GE276.out) | exact HB.out)) hb)
                                clear HO_10
                                clear HO_13
                                clear HO_15
                                clear HO_17
                                clear HO303
                                clear BK257
                                clear BK267
                                clear BK276
                                clear HB
                                have HO_10 := n0_
                                have HO_13 := n1_
                                have HO_15 := n2_
                                have HO_17 := n3_
                                have HO303 := n4_
                                have HO310 := n5_
                                have BK257 := n6_
                                have BK267 := n7_
                                have BK276 := n8_
                                have HB := n9_
                                clear n0_ n1_ n2_ n3_ n4_ n5_ n6_ n7_ n8_ n9_
                                (try clear hb)
                                (try clear hb2)
                                (try clear hk)
                                (try clear hi)
                                (try clear ho0)
                                obtain ⟨Ao85, co85, eo85⟩ := Kd.R_slice HO303.out
                                (first | subst eo85 | (injection eo85 with f1_ f2_ f3_; have f4_ := f1_.symm; have f5_ := f3_.symm; clear f1_ f2_ f3_; subst f4_; subst f5_))
                                obtain ⟨Ao86, co86, eo86⟩ := Kd.R_slice HO310.out
                                (first | subst eo86 | (injection eo86 with f1_ f2_ f3_; have f4_ := f1_.symm; have f5_ := f3_.symm; clear f1_ f2_ f3_; subst f4_; subst f5_))
                                refine hK.out _ _ ⟨(blk_cell BK267.out 0).trans rfl, (blk_cell BK267.out 1).trans rfl, (blk_cell BK267.out 2).trans rfl, (blk_cell BK267.out 3).trans rfl, (blk_cell BK276.out 0).trans rfl, (blk_cell BK276.out 1).trans rfl, (blk_cell BK276.out 2).trans rfl, (blk_cell BK276.out 3).trans rfl, (blk_cell BK257.out 0).trans rfl, (blk_cell BK257.out 1).trans rfl, (blk_cell BK257.out 2).trans rfl, (blk_cell BK257.out 3).trans rfl⟩ (fun hHeld => ?_)
                                clear hK K
                                refine norm_ (a' := ?_) ?_ ?_
                                rotate_left
                                · show Act.put _ (some 147) _ = _
                                  simp only [Act.put, List.setIfInBounds_toArray, List.set_cons_zero, List.set_cons_succ, i64_w, i32_w]
                                  rfl
                                refine one_ (i := 39) (N := some 148) #[true, true, true, true, true, true, true, true, true, true, true, true, true, true, true, true, true, true, true, true, true, true, true, true, true, true, true, true, true, true, true, true, true, true, true, true, true, true, true, true, false, false] rfl rfl (one_of HT_.out (by kernel_rfl)) (by decide) (fun K hK => ?_)
                                refine goes_ Try.func14 (by kernel_rfl) rfl #[.slice Ao85 t301.length co85, .slice Ao86 t308.length co86] (by rfl) rfl rfl (by (try simp only [List.map_toArray, List.map_cons, List.map_nil]); first | done | rfl | (simp only [List.length_drop, List.length_take]; rfl)) ?_
                                with_reducible refine (greenscreenref01_Same.calls kj46 _ _ t301 _ _ t308 t311 _ ?side1 ?side2 ?side3 ?side4 A75.out).mono ?_
                                (case side1 => repeat (first | exact (Kd.R_reads' HO303.out).2.2 | (with_reducible refine Kd.C_alloc ?_ _) | (with_reducible refine Kd.C_drewN ?_ _) | (with_reducible refine Kd.C_drew ?_)))
                                (case side2 => exact (Kd.R_reads' HO303.out).2.1)
                                (case side3 => repeat (first | exact (Kd.R_reads' HO310.out).2.2 | (with_reducible refine Kd.C_alloc ?_ _) | (with_reducible refine Kd.C_drewN ?_ _) | (with_reducible refine Kd.C_drew ?_)))
                                (case side4 => exact (Kd.R_reads' HO310.out).2.1)
                                rintro e w' ⟨rfl, ⟨nd, rfl⟩⟩
                                refine ⟨_, rfl, ?_⟩
                                refine hK.out _ _ ⟨(blk_cell BK267.out 0).trans rfl, (blk_cell BK267.out 1).trans rfl, (blk_cell BK267.out 2).trans rfl, (blk_cell BK267.out 3).trans rfl, (blk_cell BK276.out 0).trans rfl, (blk_cell BK276.out 1).trans rfl, (blk_cell BK276.out 2).trans rfl, (blk_cell BK276.out 3).trans rfl, (blk_cell BK257.out 0).trans rfl, (blk_cell BK257.out 1).trans rfl, (blk_cell BK257.out 2).trans rfl, (blk_cell BK257.out 3).trans rfl⟩ (fun hHeld => ?_)
                                clear hK K
                                refine norm_ (a' := ?_) ?_ ?_
                                rotate_left
                                · show Act.put _ (some 148) _ = _
                                  simp only [Act.put, List.setIfInBounds_toArray, List.set_cons_zero, List.set_cons_succ, i64_w, i32_w]
                                  rfl
                                refine pure_ (i := 40) (N := some 149) (v := ?_) (a' := ?_) #[true, true, true, true, true, true, true, true, true, true, true, true, true, true, true, true, true, true, true, true, true, true, true, true, true, true, true, true, true, true, true, true, true, true, true, true, true, true, true, true, true, false] rfl rfl (any_of HT_.out (by kernel_rfl)) (fun _ _ _ h => h) (Or.inl ⟨by rfl, ?_⟩) ?_ ?_
                                rotate_left
                                · intro w'
                                  go_simp
                                  with_reducible rfl
                                rotate_left
                                · simp only [Act.put, List.setIfInBounds_toArray, List.set_cons_zero, List.set_cons_succ, i64_w, i32_w]
                                  rfl
                                refine pure_ (i := 41) (N := some 8) (v := ?_) (a' := ?_) #[true, true, true, true, true, true, true, true, true, true, true, true, true, true, true, true, true, true, true, true, true, true, true, true, true, true, true, true, true, true, true, true, true, true, true, true, true, true, true, true, true, true] rfl rfl (any_of HT_.out (by kernel_rfl)) (fun _ _ _ h => h) (Or.inl ⟨by rfl, ?_⟩) ?_ ?_
                                rotate_left
                                · intro w'
                                  go_simp
                                  with_reducible rfl
                                rotate_left
                                · simp only [Act.put, List.setIfInBounds_toArray, List.set_cons_zero, List.set_cons_succ, i64_w, i32_w]
                                  rfl
                                refine done_ (done_of HT_.out (by kernel_rfl)) ?_
                                try go_wp2
                                go_ret
                                exact ⟨by first | rfl | (simp [errW_none, errW_some] <;> rfl) | (simp [*, errW_none, errW_some] <;> rfl), by repeat (first | (with_reducible first | exact HB.out | apply below_alloc | apply pw_below_drewN | apply below_drew1 | refine below_set ?_ GE257.out | refine below_set ?_ GE267.out | refine below_set ?_ GE276.out) | exact HB.out)⟩
                              · rw [if_neg c71] at H
                                have c71b0 : (t299 == t300) = false := beq_eq_false_iff_ne.mpr c71
                                have c71b1 : (t299 != t300) = true := bne_iff_ne.mpr c71
                                obtain rfl := Option.some.inj H
                                exact absurd hr_ (by decide)
                            · replace c68 := Bool.eq_false_iff.mpr c68
                              subst c68
                              have H1 : (some false) = some r := by rw [if_neg (show ¬ (false = true) by decide)] at H; exact H
                              clear H
                              have H := H1
                              clear H1
                              obtain rfl := Option.some.inj H
                              exact absurd hr_ (by decide)
                          · rw [if_neg c66] at H
                            have c66b0 : (t280 == t288) = false := by simpa using c66
                            (try (have c66b1 : decide (t280 = t288) = false := by simpa using c66))
                            (try (have c66b2 : (t280 == t288) = false := by simpa using c66))
                            (try (have c66b3 : ¬ (t280 = t288) := by simpa using c66))
                            clear c66
                            obtain rfl := Option.some.inj H
                            exact absurd hr_ (by decide)
                        · replace c65 := Bool.eq_false_iff.mpr c65
                          subst c65
                          have H1 : (some false) = some r := by rw [if_neg (show ¬ (false = true) by decide)] at H; exact H
                          clear H
                          have H := H1
                          clear H1
                          obtain rfl := Option.some.inj H
                          exact absurd hr_ (by decide)
                      · rw [if_neg c63] at H
                        have c63b0 : (t293 == t268 && (t294 == t269 && (t295 == t270 && (t296 == t271)))) = false := by simpa using c63
                        (try (have c63b1 : decide (t293 = t268 && (t294 == t269 && (t295 == t270 && (t296 == t271)))) = false := by simpa using c63))
                        (try (have c63b2 : (t293 == t268 && (t294 == t269 && (t295 == t270 && (t296 == t271)))) = false := by simpa using c63))
                        (try (have c63b3 : ¬ (t293 = t268 && (t294 == t269 && (t295 == t270 && (t296 == t271)))) := by simpa using c63))
                        clear c63
                        obtain rfl := Option.some.inj H
                        exact absurd hr_ (by decide)
                    · rw [if_neg c61] at H
                      have c61b0 : (t266 == t275) = false := beq_eq_false_iff_ne.mpr c61
                      have c61b1 : (t266 != t275) = true := bne_iff_ne.mpr c61
                      obtain rfl := Option.some.inj H
                      exact absurd hr_ (by decide)
  · replace c6 := Bool.eq_false_iff.mpr c6
    subst c6
    have H1 : (some false) = some r := by rw [if_neg (show ¬ (false = true) by decide)] at H; exact H
    clear H
    have H := H1
    clear H1
    obtain rfl := Option.some.inj H
    exact absurd hr_ (by decide)

end Go.Proofs.Ytnhogaelhggheaa.P
