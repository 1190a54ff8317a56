-- Laid by program out of the translation, some functions' texts by hand (a session's own run, not print.sh's). Lean checks it.
import Derived.Test.YtnhogaelhggheaaPx0
import Derived.Test.YtnhogaelhggheaaPx3
import Derived.Test.YtnhogaelhggheaaPx4
namespace Go.Proofs.Ytnhogaelhggheaa.P
open Go.RowKit Go.Proofs.YtnhogaelhggheaaW.PrintWords Go.Proofs.YtnhogaelhggheaaW.PrintLast Go.Proofs.YtnhogaelhggheaaW.PrintMore
attribute [local go_sem] max2_int min2_int max_two min_two max_three min_three max_four min_four   -- for this text's walks alone
set_option linter.unusedVariables false
set_option linter.unusedSimpArgs false
theorem zA_ (l : List Value) (i : Nat) (a : Value) : l.toArray.setIfInBounds i a = (l.set i a).toArray := List.setIfInBounds_toArray ..
theorem zB_ (x a : Value) (xs : List Value) : (x :: xs).set 0 a = a :: xs := rfl
theorem zC_ (x a : Value) (xs : List Value) (n : Nat) : (x :: xs).set (n + 1) a = x :: xs.set n a := rfl
abbrev T_ : Bool := true
abbrev F_ : Bool := false

/-! ### greenscreenlaw09_alive: function 7 -/
def greenscreenlaw09_alive.f (k : Nat)  : Option (Bool) := (some (([0, 0, 2, 0, 7, 241] : List Int) : List Int)).bind fun y136 => ((header_Parse.f y136).bind fun bt139 => ((header_Answer.f k bt139.1 bt139.2.1 bt139.2.2.1 bt139.2.2.2.1 0).bind fun bt148 => ((header_Answer.f k bt139.1 bt139.2.1 bt139.2.2.1 bt139.2.2.2.1 30).bind fun bt152 => ((header_Answer.f k 0 0 0 0 31).bind fun bt156 => (if 4 ≤ (y136.length : Int) then ((header_Parse.f (y136.take 4)).bind fun bt164 => ((header_Parse.f bt152.1).bind fun bt173 => ((header_Sense.f bt173.1 bt173.2.1 bt173.2.2.1 bt173.2.2.2.1 bt173.2.2.2.2.1).bind fun bt182 => ((header_Counter_Next.f 0 ([] : List Int)).bind fun bt186 => ((header_Counter_Next.f bt186.2.1 bt186.2.2).bind fun bt189 => (if bt139.2.2.2.2.2 = 0 then (if bt139.1 = 0 then (if bt139.2.2.1 = 2 then (if bt139.2.2.2.1 = 7 then (if (strOfNums bt139.2.2.2.2.1).toList = ([241] : List UInt8) then (if (strOfNums bt148.1).toList = ([2, 0, 0, 0, 7, 0] : List UInt8) then (if bt148.2 = true then (if (strOfNums bt152.1).toList = ([2, 0, 1, 0, 7, 0] : List UInt8) then (if bt152.2 = true then (if bt156.2 = true then (some false) else (if bt164.2.2.2.2.2 = 20 then (if bt182.1 = 0 then (if bt182.2.1 = true then (some false) else (if bt182.2.2 = true then ((header_Code.f 31).bind fun t192 => (if t192 = 2 then (if bt186.1 = 0 then (if bt189.1 = 1 then ((header_Counter_Pending.f bt189.2.1 bt189.2.2).bind fun bt193 => (if bt193.1 = 2 then ((header_Counter_Got.f bt193.2.1 bt193.2.2 0).bind fun bt196 => (if bt196.1 = true then ((header_Counter_Got.f bt196.2.1 bt196.2.2 0).bind fun bt199 => (if bt199.1 = true then (some false) else ((header_Counter_Pending.f bt199.2.1 bt199.2.2).bind fun bt202 => (if bt202.1 = 1 then ((header_Write.f bt139.1 bt139.2.1 bt139.2.2.1 bt139.2.2.2.1 bt139.2.2.2.2.1).bind fun t205 => (some ((strOfNums t205).toList == (strOfNums y136).toList))) else (some false))))) else (some false))) else (some false))) else (some false)) else (some false)) else (some false))) else (some false))) else (some false)) else (some false))) else (some false)) else (some false)) else (some false)) else (some false)) else (some false)) else (some false)) else (some false)) else (some false)) else (some false))))))) else (none))))))
theorem greenscreenlaw09_alive.mono : ∀ k, LeO (greenscreenlaw09_alive.f k ) (greenscreenlaw09_alive.f (k + 1) ) := by
 intro  k
 unfold greenscreenlaw09_alive.f
 repeat' first
   | (with_reducible exact header_Answer.mono _ _ _ _ _ _)
   | (with_reducible exact LeO.refl _)
   | (with_reducible exact LeO.none _)
   | (with_reducible refine LeO.ite ?_ ?_)
   | (with_reducible refine LeO.bind ?_ (fun _ => ?_))
   | exact header_Answer.mono _ _ _ _ _ _
   | exact LeO.none _
   | refine LeO.ite ?_ ?_
   | refine LeO.bind ?_ (fun _ => ?_)
def greenscreenlaw09_alive.T11 : Bool × List (List Nat × List Nat) := (true, [([], []), ([0], [0]), ([1], [1]), ([2], [2]), ([3, 2], [2, 3]), ([4, 2], [2, 4]), ([2, 5], [2, 5]), ([6, 2], [6]), ([7], [7]), ([8, 7], [7, 8]), ([9, 7], [7, 9]), ([7, 10], [7, 10]), ([11, 7], [11]), ([12], [12]), ([13, 12], [12, 13]), ([14, 12], [12, 14]), ([12, 15], [12, 15]), ([16, 12], [16]), ([17], [17]), ([18, 17], [17, 18]), ([19, 17], [17, 19]), ([17, 20], [17, 20]), ([21, 17], [21]), ([22], [22]), ([23, 22], [22, 23]), ([24, 22], [22, 24]), ([22, 25], [22, 25]), ([26, 22], [26]), ([27], [27]), ([27, 28], [27, 28]), ([29, 27], [29]), ([30], [30]), ([31, 30], [30, 31]), ([32, 30], [30, 32]), ([30, 33], [30, 33]), ([34, 30], [34]), ([35], [35]), ([35, 36], [35, 36]), ([37, 35], [37]), ([38], [38]), ([39, 38], [38, 39]), ([38, 40], [38, 40]), ([41, 38], [41]), ([42], [42]), ([43, 42], [42, 43]), ([42, 44], [42, 44]), ([45, 42], [45]), ([46], [46]), ([47, 46], [46, 47]), ([46, 48], [46, 48]), ([49, 46], [49]), ([50], [50]), ([51, 50], [50, 51]), ([50, 52], [50, 52]), ([53, 50], [53]), ([54], [54]), ([54, 55], [54, 55]), ([56, 54], [56]), ([57, 57], [57]), ([58, 57], [57, 58]), ([57, 59], [57, 59]), ([60, 58], [60]), ([61], [61]), ([62, 61], [61, 62]), ([61, 63], [61, 63]), ([64, 61], [64]), ([65], [65]), ([66, 65], [65, 66]), ([65, 67], [65, 67]), ([68, 65], [68]), ([69, 69], [69]), ([70, 69], [69, 70]), ([69, 71], [69, 71]), ([72, 70], [72]), ([73, 73], [73]), ([73, 74], [73, 74]), ([75, 74], [75]), ([76, 76], [76]), ([77, 76], [76, 77]), ([76, 78], [76, 78]), ([79, 77], [79]), ([80, 80], [80]), ([81, 80], [80, 81]), ([80, 82], [80, 82]), ([83, 81], [83]), ([84], [84]), ([85, 84], [85]), ([86], [86]), ([86], [86]), ([87, 88, 86, 86], [86, 87, 88]), ([89, 86], [86, 89]), ([86], [86]), ([91, 86], [86, 91]), ([90, 92, 86], [86, 90, 92]), ([86, 93], [86, 93]), ([94, 89, 0, 1, 2, 3, 4, 5, 6, 7, 8, 9, 10, 11, 12, 13, 14, 15, 16, 17, 18, 19, 20, 21, 22, 23, 24, 25, 26, 27, 28, 29, 30, 31, 32, 33, 34, 35, 36, 37, 38, 39, 40, 41, 42, 43, 44, 45, 46, 47, 48, 49, 50, 51, 52, 53, 54, 55, 56, 57, 58, 59, 60, 61, 62, 63, 64, 65, 66, 67, 68, 69, 70, 71, 72, 73, 74, 75, 76, 77, 78, 79, 80, 81, 82, 83, 84, 85, 86, 87, 88, 89, 90, 91, 92, 93, 94], [94])])
def greenscreenlaw09_alive.B11 : List Nat := [0, 1, 3, 7, 15, 31, 63, 127, 255, 511, 1023, 2047, 4095, 8191, 16383, 32767, 65535, 131071, 262143, 524287, 1048575, 2097151, 4194303, 8388607, 16777215, 33554431, 67108863, 134217727, 268435455, 536870911, 1073741823, 2147483647, 4294967295, 8589934591, 17179869183, 34359738367, 68719476735, 137438953471, 274877906943, 549755813887, 1099511627775, 2199023255551, 4398046511103, 8796093022207, 17592186044415, 35184372088831, 70368744177663, 140737488355327, 281474976710655, 562949953421311, 1125899906842623, 2251799813685247, 4503599627370495, 9007199254740991, 18014398509481983, 36028797018963967, 72057594037927935, 144115188075855871, 288230376151711743, 576460752303423487, 1152921504606846975, 2305843009213693951, 4611686018427387903, 9223372036854775807, 18446744073709551615, 36893488147419103231, 73786976294838206463, 147573952589676412927, 295147905179352825855, 590295810358705651711, 1180591620717411303423, 2361183241434822606847, 4722366482869645213695, 9444732965739290427391, 18889465931478580854783, 37778931862957161709567, 75557863725914323419135, 151115727451828646838271, 302231454903657293676543, 604462909807314587353087, 1208925819614629174706175, 2417851639229258349412351, 4835703278458516698824703, 9671406556917033397649407, 19342813113834066795298815, 38685626227668133590597631, 77371252455336267181195263, 154742504910672534362390527, 154742504910672534362390527, 618970019642690137449562111, 1237940039285380274899124223, 154742504910672534362390527, 2630622583481433084160638975, 9903520314283042199192993791, 19807040628566084398385987583, 39614081257132168796771975167]
theorem greenscreenlaw09_alive.tab11 : rtab .any (opsOf Try.f7 11) = greenscreenlaw09_alive.T11 := by kernel_rfl
theorem greenscreenlaw09_alive.bits11 : waitsOk greenscreenlaw09_alive.T11.2 greenscreenlaw09_alive.B11 = true := by kernel_rfl
set_option maxHeartbeats 8000000 in
set_option maxRecDepth 100000 in
theorem greenscreenlaw09_alive.calls (k : Nat)  (r : Bool) (hr_ : r = true) (w : World) (h : greenscreenlaw09_alive.f k  = some r) :
  Calls Try.prog 7 #[] w fun e w' => e = .returned (.bool r) ∧ Below w.heap.size w w' := by
 have hu25 := Try.underlying25
 have hu50 := Try.underlying50
 have HB := Aside0.mk (Below.refl w.heap.size w)
 have H : ((some (([0, 0, 2, 0, 7, 241] : List Int) : List Int)).bind fun y136 => ((header_Parse.f y136).bind fun bt139 => ((header_Answer.f k bt139.1 bt139.2.1 bt139.2.2.1 bt139.2.2.2.1 0).bind fun bt148 => ((header_Answer.f k bt139.1 bt139.2.1 bt139.2.2.1 bt139.2.2.2.1 30).bind fun bt152 => ((header_Answer.f k 0 0 0 0 31).bind fun bt156 => (if 4 ≤ (y136.length : Int) then ((header_Parse.f (y136.take 4)).bind fun bt164 => ((header_Parse.f bt152.1).bind fun bt173 => ((header_Sense.f bt173.1 bt173.2.1 bt173.2.2.1 bt173.2.2.2.1 bt173.2.2.2.2.1).bind fun bt182 => ((header_Counter_Next.f 0 ([] : List Int)).bind fun bt186 => ((header_Counter_Next.f bt186.2.1 bt186.2.2).bind fun bt189 => (if bt139.2.2.2.2.2 = 0 then (if bt139.1 = 0 then (if bt139.2.2.1 = 2 then (if bt139.2.2.2.1 = 7 then (if (strOfNums bt139.2.2.2.2.1).toList = ([241] : List UInt8) then (if (strOfNums bt148.1).toList = ([2, 0, 0, 0, 7, 0] : List UInt8) then (if bt148.2 = true then (if (strOfNums bt152.1).toList = ([2, 0, 1, 0, 7, 0] : List UInt8) then (if bt152.2 = true then (if bt156.2 = true then (some false) else (if bt164.2.2.2.2.2 = 20 then (if bt182.1 = 0 then (if bt182.2.1 = true then (some false) else (if bt182.2.2 = true then ((header_Code.f 31).bind fun t192 => (if t192 = 2 then (if bt186.1 = 0 then (if bt189.1 = 1 then ((header_Counter_Pending.f bt189.2.1 bt189.2.2).bind fun bt193 => (if bt193.1 = 2 then ((header_Counter_Got.f bt193.2.1 bt193.2.2 0).bind fun bt196 => (if bt196.1 = true then ((header_Counter_Got.f bt196.2.1 bt196.2.2 0).bind fun bt199 => (if bt199.1 = true then (some false) else ((header_Counter_Pending.f bt199.2.1 bt199.2.2).bind fun bt202 => (if bt202.1 = 1 then ((header_Write.f bt139.1 bt139.2.1 bt139.2.2.1 bt139.2.2.2.1 bt139.2.2.2.2.1).bind fun t205 => (some ((strOfNums t205).toList == (strOfNums y136).toList))) else (some false))))) else (some false))) else (some false))) else (some false)) else (some false)) else (some false))) else (some false))) else (some false)) else (some false))) else (some false)) else (some false)) else (some false)) else (some false)) else (some false)) else (some false)) else (some false)) else (some false)) else (some false))))))) else (none))))))) = some r := h
 clear h
 obtain ⟨y136, hy136⟩ : ∃ y_ : List Int, y_ = (([0, 0, 2, 0, 7, 241] : List Int)) := ⟨_, rfl⟩
 replace H : ((header_Parse.f y136).bind fun bt139 => ((header_Answer.f k bt139.1 bt139.2.1 bt139.2.2.1 bt139.2.2.2.1 0).bind fun bt148 => ((header_Answer.f k bt139.1 bt139.2.1 bt139.2.2.1 bt139.2.2.2.1 30).bind fun bt152 => ((header_Answer.f k 0 0 0 0 31).bind fun bt156 => (if 4 ≤ (y136.length : Int) then ((header_Parse.f (y136.take 4)).bind fun bt164 => ((header_Parse.f bt152.1).bind fun bt173 => ((header_Sense.f bt173.1 bt173.2.1 bt173.2.2.1 bt173.2.2.2.1 bt173.2.2.2.2.1).bind fun bt182 => ((header_Counter_Next.f 0 ([] : List Int)).bind fun bt186 => ((header_Counter_Next.f bt186.2.1 bt186.2.2).bind fun bt189 => (if bt139.2.2.2.2.2 = 0 then (if bt139.1 = 0 then (if bt139.2.2.1 = 2 then (if bt139.2.2.2.1 = 7 then (if (strOfNums bt139.2.2.2.2.1).toList = ([241] : List UInt8) then (if (strOfNums bt148.1).toList = ([2, 0, 0, 0, 7, 0] : List UInt8) then (if bt148.2 = true then (if (strOfNums bt152.1).toList = ([2, 0, 1, 0, 7, 0] : List UInt8) then (if bt152.2 = true then (if bt156.2 = true then (some false) else (if bt164.2.2.2.2.2 = 20 then (if bt182.1 = 0 then (if bt182.2.1 = true then (some false) else (if bt182.2.2 = true then ((header_Code.f 31).bind fun t192 => (if t192 = 2 then (if bt186.1 = 0 then (if bt189.1 = 1 then ((header_Counter_Pending.f bt189.2.1 bt189.2.2).bind fun bt193 => (if bt193.1 = 2 then ((header_Counter_Got.f bt193.2.1 bt193.2.2 0).bind fun bt196 => (if bt196.1 = true then ((header_Counter_Got.f bt196.2.1 bt196.2.2 0).bind fun bt199 => (if bt199.1 = true then (some false) else ((header_Counter_Pending.f bt199.2.1 bt199.2.2).bind fun bt202 => (if bt202.1 = 1 then ((header_Write.f bt139.1 bt139.2.1 bt139.2.2.1 bt139.2.2.2.1 bt139.2.2.2.2.1).bind fun t205 => (some ((strOfNums t205).toList == (strOfNums y136).toList))) else (some false))))) else (some false))) else (some false))) else (some false)) else (some false)) else (some false))) else (some false))) else (some false)) else (some false))) else (some false)) else (some false)) else (some false)) else (some false)) else (some false)) else (some false)) else (some false)) else (some false)) else (some false))))))) else (none)))))) = some r := by first | (rw [hy136]; with_reducible exact H) | (have H2_ := (Option.bind_some _ _).symm.trans H; rw [hy136]; with_reducible exact H2_) | (have H2_ := (Option.bind_some _ _).symm.trans H; with_reducible exact H2_) | with_reducible exact H | (rw [hy136]; exact H) | exact H
 have Ny136 := Aside0.mk hy136
 clear hy136
 replace H := Option.bind_eq_some_iff.mp H
 obtain ⟨⟨t139, t140, t141, t142, t143, t146⟩, A10, H⟩ := H
 replace H : ((header_Answer.f k t139 t140 t141 t142 0).bind fun bt148 => ((header_Answer.f k t139 t140 t141 t142 30).bind fun bt152 => ((header_Answer.f k 0 0 0 0 31).bind fun bt156 => (if 4 ≤ (y136.length : Int) then ((header_Parse.f (y136.take 4)).bind fun bt164 => ((header_Parse.f bt152.1).bind fun bt173 => ((header_Sense.f bt173.1 bt173.2.1 bt173.2.2.1 bt173.2.2.2.1 bt173.2.2.2.2.1).bind fun bt182 => ((header_Counter_Next.f 0 ([] : List Int)).bind fun bt186 => ((header_Counter_Next.f bt186.2.1 bt186.2.2).bind fun bt189 => (if t146 = 0 then (if t139 = 0 then (if t141 = 2 then (if t142 = 7 then (if (strOfNums t143).toList = ([241] : List UInt8) then (if (strOfNums bt148.1).toList = ([2, 0, 0, 0, 7, 0] : List UInt8) then (if bt148.2 = true then (if (strOfNums bt152.1).toList = ([2, 0, 1, 0, 7, 0] : List UInt8) then (if bt152.2 = true then (if bt156.2 = true then (some false) else (if bt164.2.2.2.2.2 = 20 then (if bt182.1 = 0 then (if bt182.2.1 = true then (some false) else (if bt182.2.2 = true then ((header_Code.f 31).bind fun t192 => (if t192 = 2 then (if bt186.1 = 0 then (if bt189.1 = 1 then ((header_Counter_Pending.f bt189.2.1 bt189.2.2).bind fun bt193 => (if bt193.1 = 2 then ((header_Counter_Got.f bt193.2.1 bt193.2.2 0).bind fun bt196 => (if bt196.1 = true then ((header_Counter_Got.f bt196.2.1 bt196.2.2 0).bind fun bt199 => (if bt199.1 = true then (some false) else ((header_Counter_Pending.f bt199.2.1 bt199.2.2).bind fun bt202 => (if bt202.1 = 1 then ((header_Write.f t139 t140 t141 t142 t143).bind fun t205 => (some ((strOfNums t205).toList == (strOfNums y136).toList))) else (some false))))) else (some false))) else (some false))) else (some false)) else (some false)) else (some false))) else (some false))) else (some false)) else (some false))) else (some false)) else (some false)) else (some false)) else (some false)) else (some false)) else (some false)) else (some false)) else (some false)) else (some false))))))) else (none))))) = some r := H
 have A1 := Aside0.mk A10
 clear A10
 replace H := Option.bind_eq_some_iff.mp H
 obtain ⟨⟨t148, t151⟩, A20, H⟩ := H
 replace H : ((header_Answer.f k t139 t140 t141 t142 30).bind fun bt152 => ((header_Answer.f k 0 0 0 0 31).bind fun bt156 => (if 4 ≤ (y136.length : Int) then ((header_Parse.f (y136.take 4)).bind fun bt164 => ((header_Parse.f bt152.1).bind fun bt173 => ((header_Sense.f bt173.1 bt173.2.1 bt173.2.2.1 bt173.2.2.2.1 bt173.2.2.2.2.1).bind fun bt182 => ((header_Counter_Next.f 0 ([] : List Int)).bind fun bt186 => ((header_Counter_Next.f bt186.2.1 bt186.2.2).bind fun bt189 => (if t146 = 0 then (if t139 = 0 then (if t141 = 2 then (if t142 = 7 then (if (strOfNums t143).toList = ([241] : List UInt8) then (if (strOfNums t148).toList = ([2, 0, 0, 0, 7, 0] : List UInt8) then (if t151 = true then (if (strOfNums bt152.1).toList = ([2, 0, 1, 0, 7, 0] : List UInt8) then (if bt152.2 = true then (if bt156.2 = true then (some false) else (if bt164.2.2.2.2.2 = 20 then (if bt182.1 = 0 then (if bt182.2.1 = true then (some false) else (if bt182.2.2 = true then ((header_Code.f 31).bind fun t192 => (if t192 = 2 then (if bt186.1 = 0 then (if bt189.1 = 1 then ((header_Counter_Pending.f bt189.2.1 bt189.2.2).bind fun bt193 => (if bt193.1 = 2 then ((header_Counter_Got.f bt193.2.1 bt193.2.2 0).bind fun bt196 => (if bt196.1 = true then ((header_Counter_Got.f bt196.2.1 bt196.2.2 0).bind fun bt199 => (if bt199.1 = true then (some false) else ((header_Counter_Pending.f bt199.2.1 bt199.2.2).bind fun bt202 => (if bt202.1 = 1 then ((header_Write.f t139 t140 t141 t142 t143).bind fun t205 => (some ((strOfNums t205).toList == (strOfNums y136).toList))) else (some false))))) else (some false))) else (some false))) else (some false)) else (some false)) else (some false))) else (some false))) else (some false)) else (some false))) else (some false)) else (some false)) else (some false)) else (some false)) else (some false)) else (some false)) else (some false)) else (some false)) else (some false))))))) else (none)))) = some r := H
 have A2 := Aside0.mk A20
 clear A20
 replace H := Option.bind_eq_some_iff.mp H
 obtain ⟨⟨t152, t155⟩, A30, H⟩ := H
 replace H : ((header_Answer.f k 0 0 0 0 31).bind fun bt156 => (if 4 ≤ (y136.length : Int) then ((header_Parse.f (y136.take 4)).bind fun bt164 => ((header_Parse.f t152).bind fun bt173 => ((header_Sense.f bt173.1 bt173.2.1 bt173.2.2.1 bt173.2.2.2.1 bt173.2.2.2.2.1).bind fun bt182 => ((header_Counter_Next.f 0 ([] : List Int)).bind fun bt186 => ((header_Counter_Next.f bt186.2.1 bt186.2.2).bind fun bt189 => (if t146 = 0 then (if t139 = 0 then (if t141 = 2 then (if t142 = 7 then (if (strOfNums t143).toList = ([241] : List UInt8) then (if (strOfNums t148).toList = ([2, 0, 0, 0, 7, 0] : List UInt8) then (if t151 = true then (if (strOfNums t152).toList = ([2, 0, 1, 0, 7, 0] : List UInt8) then (if t155 = true then (if bt156.2 = true then (some false) else (if bt164.2.2.2.2.2 = 20 then (if bt182.1 = 0 then (if bt182.2.1 = true then (some false) else (if bt182.2.2 = true then ((header_Code.f 31).bind fun t192 => (if t192 = 2 then (if bt186.1 = 0 then (if bt189.1 = 1 then ((header_Counter_Pending.f bt189.2.1 bt189.2.2).bind fun bt193 => (if bt193.1 = 2 then ((header_Counter_Got.f bt193.2.1 bt193.2.2 0).bind fun bt196 => (if bt196.1 = true then ((header_Counter_Got.f bt196.2.1 bt196.2.2 0).bind fun bt199 => (if bt199.1 = true then (some false) else ((header_Counter_Pending.f bt199.2.1 bt199.2.2).bind fun bt202 => (if bt202.1 = 1 then ((header_Write.f t139 t140 t141 t142 t143).bind fun t205 => (some ((strOfNums t205).toList == (strOfNums y136).toList))) else (some false))))) else (some false))) else (some false))) else (some false)) else (some false)) else (some false))) else (some false))) else (some false)) else (some false))) else (some false)) else (some false)) else (some false)) else (some false)) else (some false)) else (some false)) else (some false)) else (some false)) else (some false))))))) else (none))) = some r := H
 have A3 := Aside0.mk A30
 clear A30
 replace H := Option.bind_eq_some_iff.mp H
 obtain ⟨⟨t156, t159⟩, A40, H⟩ := H
 replace H : (if 4 ≤ (y136.length : Int) then ((header_Parse.f (y136.take 4)).bind fun bt164 => ((header_Parse.f t152).bind fun bt173 => ((header_Sense.f bt173.1 bt173.2.1 bt173.2.2.1 bt173.2.2.2.1 bt173.2.2.2.2.1).bind fun bt182 => ((header_Counter_Next.f 0 ([] : List Int)).bind fun bt186 => ((header_Counter_Next.f bt186.2.1 bt186.2.2).bind fun bt189 => (if t146 = 0 then (if t139 = 0 then (if t141 = 2 then (if t142 = 7 then (if (strOfNums t143).toList = ([241] : List UInt8) then (if (strOfNums t148).toList = ([2, 0, 0, 0, 7, 0] : List UInt8) then (if t151 = true then (if (strOfNums t152).toList = ([2, 0, 1, 0, 7, 0] : List UInt8) then (if t155 = true then (if t159 = true then (some false) else (if bt164.2.2.2.2.2 = 20 then (if bt182.1 = 0 then (if bt182.2.1 = true then (some false) else (if bt182.2.2 = true then ((header_Code.f 31).bind fun t192 => (if t192 = 2 then (if bt186.1 = 0 then (if bt189.1 = 1 then ((header_Counter_Pending.f bt189.2.1 bt189.2.2).bind fun bt193 => (if bt193.1 = 2 then ((header_Counter_Got.f bt193.2.1 bt193.2.2 0).bind fun bt196 => (if bt196.1 = true then ((header_Counter_Got.f bt196.2.1 bt196.2.2 0).bind fun bt199 => (if bt199.1 = true then (some false) else ((header_Counter_Pending.f bt199.2.1 bt199.2.2).bind fun bt202 => (if bt202.1 = 1 then ((header_Write.f t139 t140 t141 t142 t143).bind fun t205 => (some ((strOfNums t205).toList == (strOfNums y136).toList))) else (some false))))) else (some false))) else (some false))) else (some false)) else (some false)) else (some false))) else (some false))) else (some false)) else (some false))) else (some false)) else (some false)) else (some false)) else (some false)) else (some false)) else (some false)) else (some false)) else (some false)) else (some false))))))) else (none)) = some r := H
 have A4 := Aside0.mk A40
 clear A40
 by_cases c5 : 4 ≤ (y136.length : Int)
 ·rw [if_pos c5] at H
  have c5b0 := eq_true c5
  have c5b1 : decide (4 ≤ (y136.length : Int)) = true := decide_eq_true c5
  clear c5
  obtain ⟨y160, hy160⟩ : ∃ y_ : List Int, y_ = (y136.take 4) := ⟨_, rfl⟩
  replace H : ((header_Parse.f y160).bind fun bt164 => ((header_Parse.f t152).bind fun bt173 => ((header_Sense.f bt173.1 bt173.2.1 bt173.2.2.1 bt173.2.2.2.1 bt173.2.2.2.2.1).bind fun bt182 => ((header_Counter_Next.f 0 ([] : List Int)).bind fun bt186 => ((header_Counter_Next.f bt186.2.1 bt186.2.2).bind fun bt189 => (if t146 = 0 then (if t139 = 0 then (if t141 = 2 then (if t142 = 7 then (if (strOfNums t143).toList = ([241] : List UInt8) then (if (strOfNums t148).toList = ([2, 0, 0, 0, 7, 0] : List UInt8) then (if t151 = true then (if (strOfNums t152).toList = ([2, 0, 1, 0, 7, 0] : List UInt8) then (if t155 = true then (if t159 = true then (some false) else (if bt164.2.2.2.2.2 = 20 then (if bt182.1 = 0 then (if bt182.2.1 = true then (some false) else (if bt182.2.2 = true then ((header_Code.f 31).bind fun t192 => (if t192 = 2 then (if bt186.1 = 0 then (if bt189.1 = 1 then ((header_Counter_Pending.f bt189.2.1 bt189.2.2).bind fun bt193 => (if bt193.1 = 2 then ((header_Counter_Got.f bt193.2.1 bt193.2.2 0).bind fun bt196 => (if bt196.1 = true then ((header_Counter_Got.f bt196.2.1 bt196.2.2 0).bind fun bt199 => (if bt199.1 = true then (some false) else ((header_Counter_Pending.f bt199.2.1 bt199.2.2).bind fun bt202 => (if bt202.1 = 1 then ((header_Write.f t139 t140 t141 t142 t143).bind fun t205 => (some ((strOfNums t205).toList == (strOfNums y136).toList))) else (some false))))) else (some false))) else (some false))) else (some false)) else (some false)) else (some false))) else (some false))) else (some false)) else (some false))) else (some false)) else (some false)) else (some false)) else (some false)) else (some false)) else (some false)) else (some false)) else (some false)) else (some false))))))) = some r := by first | (rw [hy160]; with_reducible exact H) | (have H2_ := (Option.bind_some _ _).symm.trans H; rw [hy160]; with_reducible exact H2_) | (have H2_ := (Option.bind_some _ _).symm.trans H; with_reducible exact H2_) | with_reducible exact H | (rw [hy160]; exact H) | exact H
  have Ny160 := Aside0.mk hy160
  clear hy160
  replace H := Option.bind_eq_some_iff.mp H
  obtain ⟨⟨t164, t165, t166, t167, t168, t171⟩, A60, H⟩ := H
  replace H : ((header_Parse.f t152).bind fun bt173 => ((header_Sense.f bt173.1 bt173.2.1 bt173.2.2.1 bt173.2.2.2.1 bt173.2.2.2.2.1).bind fun bt182 => ((header_Counter_Next.f 0 ([] : List Int)).bind fun bt186 => ((header_Counter_Next.f bt186.2.1 bt186.2.2).bind fun bt189 => (if t146 = 0 then (if t139 = 0 then (if t141 = 2 then (if t142 = 7 then (if (strOfNums t143).toList = ([241] : List UInt8) then (if (strOfNums t148).toList = ([2, 0, 0, 0, 7, 0] : List UInt8) then (if t151 = true then (if (strOfNums t152).toList = ([2, 0, 1, 0, 7, 0] : List UInt8) then (if t155 = true then (if t159 = true then (some false) else (if t171 = 20 then (if bt182.1 = 0 then (if bt182.2.1 = true then (some false) else (if bt182.2.2 = true then ((header_Code.f 31).bind fun t192 => (if t192 = 2 then (if bt186.1 = 0 then (if bt189.1 = 1 then ((header_Counter_Pending.f bt189.2.1 bt189.2.2).bind fun bt193 => (if bt193.1 = 2 then ((header_Counter_Got.f bt193.2.1 bt193.2.2 0).bind fun bt196 => (if bt196.1 = true then ((header_Counter_Got.f bt196.2.1 bt196.2.2 0).bind fun bt199 => (if bt199.1 = true then (some false) else ((header_Counter_Pending.f bt199.2.1 bt199.2.2).bind fun bt202 => (if bt202.1 = 1 then ((header_Write.f t139 t140 t141 t142 t143).bind fun t205 => (some ((strOfNums t205).toList == (strOfNums y136).toList))) else (some false))))) else (some false))) else (some false))) else (some false)) else (some false)) else (some false))) else (some false))) else (some false)) else (some false))) else (some false)) else (some false)) else (some false)) else (some false)) else (some false)) else (some false)) else (some false)) else (some false)) else (some false)))))) = some r := H
  have A6 := Aside0.mk A60
  clear A60
  replace H := Option.bind_eq_some_iff.mp H
  obtain ⟨⟨t173, t174, t175, t176, t177, t180⟩, A70, H⟩ := H
  replace H : ((header_Sense.f t173 t174 t175 t176 t177).bind fun bt182 => ((header_Counter_Next.f 0 ([] : List Int)).bind fun bt186 => ((header_Counter_Next.f bt186.2.1 bt186.2.2).bind fun bt189 => (if t146 = 0 then (if t139 = 0 then (if t141 = 2 then (if t142 = 7 then (if (strOfNums t143).toList = ([241] : List UInt8) then (if (strOfNums t148).toList = ([2, 0, 0, 0, 7, 0] : List UInt8) then (if t151 = true then (if (strOfNums t152).toList = ([2, 0, 1, 0, 7, 0] : List UInt8) then (if t155 = true then (if t159 = true then (some false) else (if t171 = 20 then (if bt182.1 = 0 then (if bt182.2.1 = true then (some false) else (if bt182.2.2 = true then ((header_Code.f 31).bind fun t192 => (if t192 = 2 then (if bt186.1 = 0 then (if bt189.1 = 1 then ((header_Counter_Pending.f bt189.2.1 bt189.2.2).bind fun bt193 => (if bt193.1 = 2 then ((header_Counter_Got.f bt193.2.1 bt193.2.2 0).bind fun bt196 => (if bt196.1 = true then ((header_Counter_Got.f bt196.2.1 bt196.2.2 0).bind fun bt199 => (if bt199.1 = true then (some false) else ((header_Counter_Pending.f bt199.2.1 bt199.2.2).bind fun bt202 => (if bt202.1 = 1 then ((header_Write.f t139 t140 t141 t142 t143).bind fun t205 => (some ((strOfNums t205).toList == (strOfNums y136).toList))) else (some false))))) else (some false))) else (some false))) else (some false)) else (some false)) else (some false))) else (some false))) else (some false)) else (some false))) else (some false)) else (some false)) else (some false)) else (some false)) else (some false)) else (some false)) else (some false)) else (some false)) else (some false))))) = some r := H
  have A7 := Aside0.mk A70
  clear A70
  replace H := Option.bind_eq_some_iff.mp H
  obtain ⟨⟨t182, t183, t184⟩, A80, H⟩ := H
  replace H : ((header_Counter_Next.f 0 ([] : List Int)).bind fun bt186 => ((header_Counter_Next.f bt186.2.1 bt186.2.2).bind fun bt189 => (if t146 = 0 then (if t139 = 0 then (if t141 = 2 then (if t142 = 7 then (if (strOfNums t143).toList = ([241] : List UInt8) then (if (strOfNums t148).toList = ([2, 0, 0, 0, 7, 0] : List UInt8) then (if t151 = true then (if (strOfNums t152).toList = ([2, 0, 1, 0, 7, 0] : List UInt8) then (if t155 = true then (if t159 = true then (some false) else (if t171 = 20 then (if t182 = 0 then (if t183 = true then (some false) else (if t184 = true then ((header_Code.f 31).bind fun t192 => (if t192 = 2 then (if bt186.1 = 0 then (if bt189.1 = 1 then ((header_Counter_Pending.f bt189.2.1 bt189.2.2).bind fun bt193 => (if bt193.1 = 2 then ((header_Counter_Got.f bt193.2.1 bt193.2.2 0).bind fun bt196 => (if bt196.1 = true then ((header_Counter_Got.f bt196.2.1 bt196.2.2 0).bind fun bt199 => (if bt199.1 = true then (some false) else ((header_Counter_Pending.f bt199.2.1 bt199.2.2).bind fun bt202 => (if bt202.1 = 1 then ((header_Write.f t139 t140 t141 t142 t143).bind fun t205 => (some ((strOfNums t205).toList == (strOfNums y136).toList))) else (some false))))) else (some false))) else (some false))) else (some false)) else (some false)) else (some false))) else (some false))) else (some false)) else (some false))) else (some false)) else (some false)) else (some false)) else (some false)) else (some false)) else (some false)) else (some false)) else (some false)) else (some false)))) = some r := H
  have A8 := Aside0.mk A80
  clear A80
  replace H := Option.bind_eq_some_iff.mp H
  obtain ⟨⟨t186, t187, t188⟩, A90, H⟩ := H
  replace H : ((header_Counter_Next.f t187 t188).bind fun bt189 => (if t146 = 0 then (if t139 = 0 then (if t141 = 2 then (if t142 = 7 then (if (strOfNums t143).toList = ([241] : List UInt8) then (if (strOfNums t148).toList = ([2, 0, 0, 0, 7, 0] : List UInt8) then (if t151 = true then (if (strOfNums t152).toList = ([2, 0, 1, 0, 7, 0] : List UInt8) then (if t155 = true then (if t159 = true then (some false) else (if t171 = 20 then (if t182 = 0 then (if t183 = true then (some false) else (if t184 = true then ((header_Code.f 31).bind fun t192 => (if t192 = 2 then (if t186 = 0 then (if bt189.1 = 1 then ((header_Counter_Pending.f bt189.2.1 bt189.2.2).bind fun bt193 => (if bt193.1 = 2 then ((header_Counter_Got.f bt193.2.1 bt193.2.2 0).bind fun bt196 => (if bt196.1 = true then ((header_Counter_Got.f bt196.2.1 bt196.2.2 0).bind fun bt199 => (if bt199.1 = true then (some false) else ((header_Counter_Pending.f bt199.2.1 bt199.2.2).bind fun bt202 => (if bt202.1 = 1 then ((header_Write.f t139 t140 t141 t142 t143).bind fun t205 => (some ((strOfNums t205).toList == (strOfNums y136).toList))) else (some false))))) else (some false))) else (some false))) else (some false)) else (some false)) else (some false))) else (some false))) else (some false)) else (some false))) else (some false)) else (some false)) else (some false)) else (some false)) else (some false)) else (some false)) else (some false)) else (some false)) else (some false))) = some r := H
  have A9 := Aside0.mk A90
  clear A90
  replace H := Option.bind_eq_some_iff.mp H
  obtain ⟨⟨t189, t190, t191⟩, A100, H⟩ := H
  replace H : (if t146 = 0 then (if t139 = 0 then (if t141 = 2 then (if t142 = 7 then (if (strOfNums t143).toList = ([241] : List UInt8) then (if (strOfNums t148).toList = ([2, 0, 0, 0, 7, 0] : List UInt8) then (if t151 = true then (if (strOfNums t152).toList = ([2, 0, 1, 0, 7, 0] : List UInt8) then (if t155 = true then (if t159 = true then (some false) else (if t171 = 20 then (if t182 = 0 then (if t183 = true then (some false) else (if t184 = true then ((header_Code.f 31).bind fun t192 => (if t192 = 2 then (if t186 = 0 then (if t189 = 1 then ((header_Counter_Pending.f t190 t191).bind fun bt193 => (if bt193.1 = 2 then ((header_Counter_Got.f bt193.2.1 bt193.2.2 0).bind fun bt196 => (if bt196.1 = true then ((header_Counter_Got.f bt196.2.1 bt196.2.2 0).bind fun bt199 => (if bt199.1 = true then (some false) else ((header_Counter_Pending.f bt199.2.1 bt199.2.2).bind fun bt202 => (if bt202.1 = 1 then ((header_Write.f t139 t140 t141 t142 t143).bind fun t205 => (some ((strOfNums t205).toList == (strOfNums y136).toList))) else (some false))))) else (some false))) else (some false))) else (some false)) else (some false)) else (some false))) else (some false))) else (some false)) else (some false))) else (some false)) else (some false)) else (some false)) else (some false)) else (some false)) else (some false)) else (some false)) else (some false)) else (some false)) = some r := H
  have A10 := Aside0.mk A100
  clear A100
  by_cases c11 : t146 = 0
  ·rw [if_pos c11] at H
   have c11b0 : (t146 == 0) = true := beq_iff_eq.mpr c11
   have c11b1 : (t146 != 0) = false := bne_eq_false_iff_eq.mpr c11
   clear c11
   by_cases c12 : t139 = 0
   ·rw [if_pos c12] at H
    have c12b0 : (t139 == 0) = true := beq_iff_eq.mpr c12
    have c12b1 : (t139 != 0) = false := bne_eq_false_iff_eq.mpr c12
    clear c12
    by_cases c13 : t141 = 2
    ·rw [if_pos c13] at H
     have c13b0 : (t141 == 2) = true := beq_iff_eq.mpr c13
     have c13b1 : (t141 != 2) = false := bne_eq_false_iff_eq.mpr c13
     clear c13
     by_cases c14 : t142 = 7
     ·rw [if_pos c14] at H
      have c14b0 : (t142 == 7) = true := beq_iff_eq.mpr c14
      have c14b1 : (t142 != 7) = false := bne_eq_false_iff_eq.mpr c14
      clear c14
      by_cases c15 : (strOfNums t143).toList = ([241] : List UInt8)
      ·rw [if_pos c15] at H
       have c15b0 : ((strOfNums t143).toList == ([241] : List UInt8)) = true := beq_iff_eq.mpr c15
       have c15b1 : ((strOfNums t143).toList != ([241] : List UInt8)) = false := bne_eq_false_iff_eq.mpr c15
       clear c15
       by_cases c16 : (strOfNums t148).toList = ([2, 0, 0, 0, 7, 0] : List UInt8)
       ·rw [if_pos c16] at H
        have c16b0 : ((strOfNums t148).toList == ([2, 0, 0, 0, 7, 0] : List UInt8)) = true := beq_iff_eq.mpr c16
        have c16b1 : ((strOfNums t148).toList != ([2, 0, 0, 0, 7, 0] : List UInt8)) = false := bne_eq_false_iff_eq.mpr c16
        clear c16
        by_cases c17 : t151 = true
        ·subst c17
         have H1 : (if (strOfNums t152).toList = ([2, 0, 1, 0, 7, 0] : List UInt8) then (if t155 = true then (if t159 = true then (some false) else (if t171 = 20 then (if t182 = 0 then (if t183 = true then (some false) else (if t184 = true then ((header_Code.f 31).bind fun t192 => (if t192 = 2 then (if t186 = 0 then (if t189 = 1 then ((header_Counter_Pending.f t190 t191).bind fun bt193 => (if bt193.1 = 2 then ((header_Counter_Got.f bt193.2.1 bt193.2.2 0).bind fun bt196 => (if bt196.1 = true then ((header_Counter_Got.f bt196.2.1 bt196.2.2 0).bind fun bt199 => (if bt199.1 = true then (some false) else ((header_Counter_Pending.f bt199.2.1 bt199.2.2).bind fun bt202 => (if bt202.1 = 1 then ((header_Write.f t139 t140 t141 t142 t143).bind fun t205 => (some ((strOfNums t205).toList == (strOfNums y136).toList))) else (some false))))) else (some false))) else (some false))) else (some false)) else (some false)) else (some false))) else (some false))) else (some false)) else (some false))) else (some false)) else (some false)) = some r := by rw [if_pos rfl] at H; exact H
         clear H
         have H := H1
         clear H1
         by_cases c18 : (strOfNums t152).toList = ([2, 0, 1, 0, 7, 0] : List UInt8)
         ·rw [if_pos c18] at H
          have c18b0 : ((strOfNums t152).toList == ([2, 0, 1, 0, 7, 0] : List UInt8)) = true := beq_iff_eq.mpr c18
          have c18b1 : ((strOfNums t152).toList != ([2, 0, 1, 0, 7, 0] : List UInt8)) = false := bne_eq_false_iff_eq.mpr c18
          clear c18
          by_cases c19 : t155 = true
          ·subst c19
           have H1 : (if t159 = true then (some false) else (if t171 = 20 then (if t182 = 0 then (if t183 = true then (some false) else (if t184 = true then ((header_Code.f 31).bind fun t192 => (if t192 = 2 then (if t186 = 0 then (if t189 = 1 then ((header_Counter_Pending.f t190 t191).bind fun bt193 => (if bt193.1 = 2 then ((header_Counter_Got.f bt193.2.1 bt193.2.2 0).bind fun bt196 => (if bt196.1 = true then ((header_Counter_Got.f bt196.2.1 bt196.2.2 0).bind fun bt199 => (if bt199.1 = true then (some false) else ((header_Counter_Pending.f bt199.2.1 bt199.2.2).bind fun bt202 => (if bt202.1 = 1 then ((header_Write.f t139 t140 t141 t142 t143).bind fun t205 => (some ((strOfNums t205).toList == (strOfNums y136).toList))) else (some false))))) else (some false))) else (some false))) else (some false)) else (some false)) else (some false))) else (some false))) else (some false)) else (some false))) = some r := by rw [if_pos rfl] at H; exact H
           clear H
           have H := H1
           clear H1
           by_cases c20 : t159 = true
           ·subst c20
            have H1 : (some false) = some r := by rw [if_pos rfl] at H; exact H
            clear H
            have H := H1
            clear H1
            obtain rfl := Option.some.inj H
            exact absurd hr_ (by decide)
           ·replace c20 := Bool.eq_false_iff.mpr c20
            subst c20
            have H1 : (if t171 = 20 then (if t182 = 0 then (if t183 = true then (some false) else (if t184 = true then ((header_Code.f 31).bind fun t192 => (if t192 = 2 then (if t186 = 0 then (if t189 = 1 then ((header_Counter_Pending.f t190 t191).bind fun bt193 => (if bt193.1 = 2 then ((header_Counter_Got.f bt193.2.1 bt193.2.2 0).bind fun bt196 => (if bt196.1 = true then ((header_Counter_Got.f bt196.2.1 bt196.2.2 0).bind fun bt199 => (if bt199.1 = true then (some false) else ((header_Counter_Pending.f bt199.2.1 bt199.2.2).bind fun bt202 => (if bt202.1 = 1 then ((header_Write.f t139 t140 t141 t142 t143).bind fun t205 => (some ((strOfNums t205).toList == (strOfNums y136).toList))) else (some false))))) else (some false))) else (some false))) else (some false)) else (some false)) else (some false))) else (some false))) else (some false)) else (some false)) = some r := by rw [if_neg (show ¬ (false = true) by decide)] at H; exact H
            clear H
            have H := H1
            clear H1
            by_cases c51 : t171 = 20
            ·rw [if_pos c51] at H
             have c51b0 : (t171 == 20) = true := beq_iff_eq.mpr c51
             have c51b1 : (t171 != 20) = false := bne_eq_false_iff_eq.mpr c51
             clear c51
             by_cases c52 : t182 = 0
             ·rw [if_pos c52] at H
              have c52b0 : (t182 == 0) = true := beq_iff_eq.mpr c52
              have c52b1 : (t182 != 0) = false := bne_eq_false_iff_eq.mpr c52
              clear c52
              by_cases c53 : t183 = true
              ·subst c53
               have H1 : (some false) = some r := by rw [if_pos rfl] at H; exact H
               clear H
               have H := H1
               clear H1
               obtain rfl := Option.some.inj H
               exact absurd hr_ (by decide)
              ·replace c53 := Bool.eq_false_iff.mpr c53
               subst c53
               have H1 : (if t184 = true then ((header_Code.f 31).bind fun t192 => (if t192 = 2 then (if t186 = 0 then (if t189 = 1 then ((header_Counter_Pending.f t190 t191).bind fun bt193 => (if bt193.1 = 2 then ((header_Counter_Got.f bt193.2.1 bt193.2.2 0).bind fun bt196 => (if bt196.1 = true then ((header_Counter_Got.f bt196.2.1 bt196.2.2 0).bind fun bt199 => (if bt199.1 = true then (some false) else ((header_Counter_Pending.f bt199.2.1 bt199.2.2).bind fun bt202 => (if bt202.1 = 1 then ((header_Write.f t139 t140 t141 t142 t143).bind fun t205 => (some ((strOfNums t205).toList == (strOfNums y136).toList))) else (some false))))) else (some false))) else (some false))) else (some false)) else (some false)) else (some false))) else (some false)) = some r := by rw [if_neg (show ¬ (false = true) by decide)] at H; exact H
               clear H
               have H := H1
               clear H1
               by_cases c84 : t184 = true
               ·subst c84
                have H1 : ((header_Code.f 31).bind fun t192 => (if t192 = 2 then (if t186 = 0 then (if t189 = 1 then ((header_Counter_Pending.f t190 t191).bind fun bt193 => (if bt193.1 = 2 then ((header_Counter_Got.f bt193.2.1 bt193.2.2 0).bind fun bt196 => (if bt196.1 = true then ((header_Counter_Got.f bt196.2.1 bt196.2.2 0).bind fun bt199 => (if bt199.1 = true then (some false) else ((header_Counter_Pending.f bt199.2.1 bt199.2.2).bind fun bt202 => (if bt202.1 = 1 then ((header_Write.f t139 t140 t141 t142 t143).bind fun t205 => (some ((strOfNums t205).toList == (strOfNums y136).toList))) else (some false))))) else (some false))) else (some false))) else (some false)) else (some false)) else (some false))) = some r := by rw [if_pos rfl] at H; exact H
                clear H
                have H := H1
                clear H1
                replace H := Option.bind_eq_some_iff.mp H
                obtain ⟨t192, A850, H⟩ := H
                replace H : (if t192 = 2 then (if t186 = 0 then (if t189 = 1 then ((header_Counter_Pending.f t190 t191).bind fun bt193 => (if bt193.1 = 2 then ((header_Counter_Got.f bt193.2.1 bt193.2.2 0).bind fun bt196 => (if bt196.1 = true then ((header_Counter_Got.f bt196.2.1 bt196.2.2 0).bind fun bt199 => (if bt199.1 = true then (some false) else ((header_Counter_Pending.f bt199.2.1 bt199.2.2).bind fun bt202 => (if bt202.1 = 1 then ((header_Write.f t139 t140 t141 t142 t143).bind fun t205 => (some ((strOfNums t205).toList == (strOfNums y136).toList))) else (some false))))) else (some false))) else (some false))) else (some false)) else (some false)) else (some false)) = some r := H
                have A85 := Aside0.mk A850
                clear A850
                by_cases c86 : t192 = 2
                ·rw [if_pos c86] at H
                 have c86b0 : (t192 == 2) = true := beq_iff_eq.mpr c86
                 have c86b1 : (t192 != 2) = false := bne_eq_false_iff_eq.mpr c86
                 clear c86
                 by_cases c87 : t186 = 0
                 ·rw [if_pos c87] at H
                  have c87b0 : (t186 == 0) = true := beq_iff_eq.mpr c87
                  have c87b1 : (t186 != 0) = false := bne_eq_false_iff_eq.mpr c87
                  clear c87
                  by_cases c88 : t189 = 1
                  ·rw [if_pos c88] at H
                   have c88b0 : (t189 == 1) = true := beq_iff_eq.mpr c88
                   have c88b1 : (t189 != 1) = false := bne_eq_false_iff_eq.mpr c88
                   clear c88
                   replace H := Option.bind_eq_some_iff.mp H
                   obtain ⟨⟨t193, t194, t195⟩, A890, H⟩ := H
                   replace H : (if t193 = 2 then ((header_Counter_Got.f t194 t195 0).bind fun bt196 => (if bt196.1 = true then ((header_Counter_Got.f bt196.2.1 bt196.2.2 0).bind fun bt199 => (if bt199.1 = true then (some false) else ((header_Counter_Pending.f bt199.2.1 bt199.2.2).bind fun bt202 => (if bt202.1 = 1 then ((header_Write.f t139 t140 t141 t142 t143).bind fun t205 => (some ((strOfNums t205).toList == (strOfNums y136).toList))) else (some false))))) else (some false))) else (some false)) = some r := H
                   have A89 := Aside0.mk A890
                   clear A890
                   by_cases c90 : t193 = 2
                   ·rw [if_pos c90] at H
                    have c90b0 : (t193 == 2) = true := beq_iff_eq.mpr c90
                    have c90b1 : (t193 != 2) = false := bne_eq_false_iff_eq.mpr c90
                    clear c90
                    replace H := Option.bind_eq_some_iff.mp H
                    obtain ⟨⟨t196, t197, t198⟩, A910, H⟩ := H
                    replace H : (if t196 = true then ((header_Counter_Got.f t197 t198 0).bind fun bt199 => (if bt199.1 = true then (some false) else ((header_Counter_Pending.f bt199.2.1 bt199.2.2).bind fun bt202 => (if bt202.1 = 1 then ((header_Write.f t139 t140 t141 t142 t143).bind fun t205 => (some ((strOfNums t205).toList == (strOfNums y136).toList))) else (some false))))) else (some false)) = some r := H
                    have A91 := Aside0.mk A910
                    clear A910
                    by_cases c92 : t196 = true
                    ·subst c92
                     have H1 : ((header_Counter_Got.f t197 t198 0).bind fun bt199 => (if bt199.1 = true then (some false) else ((header_Counter_Pending.f bt199.2.1 bt199.2.2).bind fun bt202 => (if bt202.1 = 1 then ((header_Write.f t139 t140 t141 t142 t143).bind fun t205 => (some ((strOfNums t205).toList == (strOfNums y136).toList))) else (some false))))) = some r := by rw [if_pos rfl] at H; exact H
                     clear H
                     have H := H1
                     clear H1
                     replace H := Option.bind_eq_some_iff.mp H
                     obtain ⟨⟨t199, t200, t201⟩, A930, H⟩ := H
                     replace H : (if t199 = true then (some false) else ((header_Counter_Pending.f t200 t201).bind fun bt202 => (if bt202.1 = 1 then ((header_Write.f t139 t140 t141 t142 t143).bind fun t205 => (some ((strOfNums t205).toList == (strOfNums y136).toList))) else (some false)))) = some r := H
                     have A93 := Aside0.mk A930
                     clear A930
                     by_cases c94 : t199 = true
                     ·subst c94
                      have H1 : (some false) = some r := by rw [if_pos rfl] at H; exact H
                      clear H
                      have H := H1
                      clear H1
                      obtain rfl := Option.some.inj H
                      exact absurd hr_ (by decide)
                     ·replace c94 := Bool.eq_false_iff.mpr c94
                      subst c94
                      have H1 : ((header_Counter_Pending.f t200 t201).bind fun bt202 => (if bt202.1 = 1 then ((header_Write.f t139 t140 t141 t142 t143).bind fun t205 => (some ((strOfNums t205).toList == (strOfNums y136).toList))) else (some false))) = some r := by rw [if_neg (show ¬ (false = true) by decide)] at H; exact H
                      clear H
                      have H := H1
                      clear H1
                      replace H := Option.bind_eq_some_iff.mp H
                      obtain ⟨⟨t202, t203, t204⟩, A1280, H⟩ := H
                      replace H : (if t202 = 1 then ((header_Write.f t139 t140 t141 t142 t143).bind fun t205 => (some ((strOfNums t205).toList == (strOfNums y136).toList))) else (some false)) = some r := H
                      have A128 := Aside0.mk A1280
                      clear A1280
                      by_cases c129 : t202 = 1
                      ·rw [if_pos c129] at H
                       have c129b0 : (t202 == 1) = true := beq_iff_eq.mpr c129
                       have c129b1 : (t202 != 1) = false := bne_eq_false_iff_eq.mpr c129
                       clear c129
                       replace H := Option.bind_eq_some_iff.mp H
                       obtain ⟨t205, A1300, H⟩ := H
                       replace H : (some ((strOfNums t205).toList == (strOfNums y136).toList)) = some r := H
                       have A130 := Aside0.mk A1300
                       clear A1300
                       obtain rfl := Option.some.inj H
                       go_enter Try.func7, Try.ntmps7
                       try go_wp2_with (first | ((with_reducible refine gate_dst (N := 23) rfl ?_); refine Kd.R_lit (Kd.int .u8) _ 5 ?hg (N := 23) ?hd (xs := ([0, 0, 2, 0, 7, 241] : List Int)) (inner := [.int .u8 0, .int .u8 0, .int .u8 2, .int .u8 0, .int .u8 7, .int .u8 241]) (ok := fun _ => True) (okp := fun _ => True) ?hr ?hp (fun _ hk => hk) trivial (Below.refl _ _) (Nat.le_refl _) (by simp) ?_; (case hd => rfl); (case hg => rfl); (case hr => first | (go_simp; done) | (go_simp; rfl)); (case hp => exact (Reps.one (show Kd.M (Kd.int .u8) _ _ _ 0 [.int .u8 0] from rfl) (Reps.one (show Kd.M (Kd.int .u8) _ _ _ 0 [.int .u8 0] from rfl) (Reps.one (show Kd.M (Kd.int .u8) _ _ _ 2 [.int .u8 2] from rfl) (Reps.one (show Kd.M (Kd.int .u8) _ _ _ 0 [.int .u8 0] from rfl) (Reps.one (show Kd.M (Kd.int .u8) _ _ _ 7 [.int .u8 7] from rfl) (Reps.one (show Kd.M (Kd.int .u8) _ _ _ 241 [.int .u8 241] from rfl) (Reps.none _ _)))))))); intro v137 w131 ho132 hb hg_ hnew_; clear hg_ hnew_; (first | rw [← Ny136.out] at ho132 | (simp only [Int.reduceToNat] at ho132; rw [← Ny136.out] at ho132)); have n0_ := Aside0.mk (Kd.R_lower ho132 (below_size (by repeat (first | (with_reducible first | exact HB.out | apply below_alloc | apply pw_below_drewN | apply below_drew1) | exact HB.out)))); have n1_ := Aside0.mk (below_step (by repeat (first | (with_reducible first | exact HB.out | apply below_alloc | apply pw_below_drewN | apply below_drew1) | exact HB.out)) hb); clear HB; have HO138 := n0_; have HB := n1_; clear n0_ n1_; clear hb ho132; obtain ⟨Ao133, co133, eo133⟩ := Kd.R_slice HO138.out; subst eo133) | ((with_reducible refine gate_callee (f := 8) rfl ?_); refine goesL_ (some 26) rfl rfl Try.func8 (by kernel_rfl) rfl #[.slice Ao133 y136.length co133] rfl (by (try simp only [List.map_toArray, List.map_cons, List.map_nil]); first | done | rfl | (simp only [List.length_drop, List.length_take]; rfl)) ?_; (with_reducible refine (header_Parse.calls _ _ y136 t139 t140 t141 t142 t143 t146 _ ?side1 ?side2 A1.out).mono ?_); (case side1 => repeat (first | exact (Kd.R_reads' HO138.out).2.2 | (with_reducible refine Kd.C_alloc ?_ _) | (with_reducible refine Kd.C_drewN ?_ _) | (with_reducible refine Kd.C_drew ?_))); (case side2 => exact (Kd.R_reads' HO138.out).2.1); rintro e w134 ⟨v144, rfl, ho0, hb⟩; refine ⟨_, rfl, ?_⟩; have n0_ := Aside0.mk (Kd.R_elder' (by (with_reducible repeat (first | apply Kd.R_alloc | apply Kd.R_drewN | apply Kd.R_drew)); exact HO138.out) (Kd.R_base ho0) hb); have n1_ := Aside0.mk (Kd.R_lower (Kd.R_new' ho0 (Kd.R_lt (by (with_reducible repeat (first | apply Kd.R_alloc | apply Kd.R_drewN | apply Kd.R_drew)); exact HO138.out))) (below_size (by repeat (first | (with_reducible first | exact HB.out | apply below_alloc | apply pw_below_drewN | apply below_drew1) | exact HB.out)))); have n2_ := Aside0.mk (below_step (by repeat (first | (with_reducible first | exact HB.out | apply below_alloc | apply pw_below_drewN | apply below_drew1) | exact HB.out)) hb); clear HO138; clear HB; have HO138 := n0_; have HO145 := n1_; have HB := n2_; clear n0_ n1_ n2_; (try clear hb); (try clear hb2); (try clear hk); (try clear hi); (try clear ho0)) | ((with_reducible refine gate_dst (N := 2) rfl ?_); refine box_event ?hg (N := 2) ?hd (cs := #[.int .u8 0, .int .u8 0, .int .u8 0, .int .u16 0]) (t := 25) ?hr ?_; (case hd => rfl); (case hg => rfl); (case hr => first | (go_simp; done) | (go_simp; rfl)); intro gb147 hg w135 hbox hb; have n0_ := Aside0.mk (Kd.R_below (by (with_reducible repeat (first | apply Kd.R_alloc | apply Kd.R_drewN | apply Kd.R_drew)); exact HO138.out) hb); have n1_ := Aside0.mk (Kd.R_below (by (with_reducible repeat (first | apply Kd.R_alloc | apply Kd.R_drewN | apply Kd.R_drew)); exact HO145.out) hb); have n2_ := Aside0.mk (below_step (by repeat (first | (with_reducible first | exact HB.out | apply below_alloc | apply pw_below_drewN | apply below_drew1) | exact HB.out)) hb); have n3_ := Aside0.mk (hbox); have n4_ := Aside0.mk ((by rw [hg]; exact (below_size (by repeat (first | (with_reducible first | exact HB.out | apply below_alloc | apply pw_below_drewN | apply below_drew1) | exact HB.out))) : w.heap.size ≤ gb147)); have n5_ := Aside0.mk ((by rw [hg]; exact (below_size (by repeat (first | (with_reducible first | exact HB.out | apply below_alloc | apply pw_below_drewN | apply below_drew1) | exact HB.out))) : w.heap.size ≤ gb147)); clear HO138; clear HO145; clear HB; have HO138 := n0_; have HO145 := n1_; have HB := n2_; have BK147 := n3_; have GW147 := n4_; have GE147 := n5_; clear n0_ n1_ n2_ n3_ n4_ n5_; clear hb hbox hg; have hcz136_0 : w135.cell? ⟨gb147, 0, none⟩ = some (.int .u8 0) := (blk_cell BK147.out 0).trans rfl; have hcz136_1 : w135.cell? ⟨gb147, 1, none⟩ = some (.int .u8 0) := (blk_cell BK147.out 1).trans rfl; have hcz136_2 : w135.cell? ⟨gb147, 2, none⟩ = some (.int .u8 0) := (blk_cell BK147.out 2).trans rfl; have hcz136_3 : w135.cell? ⟨gb147, 3, none⟩ = some (.int .u16 0) := (blk_cell BK147.out 3).trans rfl; have hfz136_0 := blk_frozen BK147.out 0; have hfz136_1 := blk_frozen BK147.out 1; have hfz136_2 := blk_frozen BK147.out 2; have hfz136_3 := blk_frozen BK147.out 3) | ((with_reducible refine gate_callee (f := 10) rfl ?_); refine goesL_ (some 32) rfl rfl Try.func10 (by kernel_rfl) rfl #[.agg #[.int .u8 t139, .int .u8 t140, .int .u8 t141, .int .u16 t142], .int .i64 0] rfl (by (try simp only [List.map_toArray, List.map_cons, List.map_nil]); first | done | rfl | (simp only [List.length_drop, List.length_take]; rfl)) ?_; (with_reducible refine (header_Answer.calls k t139 t140 t141 t142 0 t148 true _ A2.out).mono ?_); rintro e w137 ⟨v149, rfl, ho0, hb⟩; refine ⟨_, rfl, ?_⟩; have n0_ := Aside0.mk (Kd.R_elder' (by (with_reducible repeat (first | apply Kd.R_alloc | apply Kd.R_drewN | apply Kd.R_drew)); exact (Kd.R_mono (Kd.R_far (p := ⟨gb147, 3, none⟩) (Kd.R_far (p := ⟨gb147, 2, none⟩) (Kd.R_far (p := ⟨gb147, 1, none⟩) (Kd.R_far (p := ⟨gb147, 0, none⟩) (Kd.R_types HO138.out BK147.out (by decide)) (fun _ hk => hk.2) (.int .u8 t139)) (fun _ hk => hk.2) (.int .u8 t140)) (fun _ hk => hk.2) (.int .u8 t141)) (fun _ hk => hk.2) (.int .u16 t142)) (fun _ h_ => h_.1))) (Kd.R_base ho0) hb); have n1_ := Aside0.mk (Kd.R_elder' (by (with_reducible repeat (first | apply Kd.R_alloc | apply Kd.R_drewN | apply Kd.R_drew)); exact (Kd.R_mono (Kd.R_far (p := ⟨gb147, 3, none⟩) (Kd.R_far (p := ⟨gb147, 2, none⟩) (Kd.R_far (p := ⟨gb147, 1, none⟩) (Kd.R_far (p := ⟨gb147, 0, none⟩) (Kd.R_types HO145.out BK147.out (by decide)) (fun _ hk => hk.2) (.int .u8 t139)) (fun _ hk => hk.2) (.int .u8 t140)) (fun _ hk => hk.2) (.int .u8 t141)) (fun _ hk => hk.2) (.int .u16 t142)) (fun _ h_ => h_.1))) (Kd.R_base ho0) hb); have n2_ := Aside0.mk (Kd.R_lower (Kd.R_new' (Kd.R_new' ho0 (Kd.R_lt (by (with_reducible repeat (first | apply Kd.R_alloc | apply Kd.R_drewN | apply Kd.R_drew)); exact (Kd.R_mono (Kd.R_far (p := ⟨gb147, 3, none⟩) (Kd.R_far (p := ⟨gb147, 2, none⟩) (Kd.R_far (p := ⟨gb147, 1, none⟩) (Kd.R_far (p := ⟨gb147, 0, none⟩) (Kd.R_types HO138.out BK147.out (by decide)) (fun _ hk => hk.2) (.int .u8 t139)) (fun _ hk => hk.2) (.int .u8 t140)) (fun _ hk => hk.2) (.int .u8 t141)) (fun _ hk => hk.2) (.int .u16 t142)) (fun _ h_ => h_.1))))) (Kd.R_lt (by (with_reducible repeat (first | apply Kd.R_alloc | apply Kd.R_drewN | apply Kd.R_drew)); exact (Kd.R_mono (Kd.R_far (p := ⟨gb147, 3, none⟩) (Kd.R_far (p := ⟨gb147, 2, none⟩) (Kd.R_far (p := ⟨gb147, 1, none⟩) (Kd.R_far (p := ⟨gb147, 0, none⟩) (Kd.R_types HO145.out BK147.out (by decide)) (fun _ hk => hk.2) (.int .u8 t139)) (fun _ hk => hk.2) (.int .u8 t140)) (fun _ hk => hk.2) (.int .u8 t141)) (fun _ hk => hk.2) (.int .u16 t142)) (fun _ h_ => h_.1))))) (below_size (by repeat (first | (with_reducible first | exact HB.out | apply below_alloc | apply pw_below_drewN | apply below_drew1 | refine below_set ?_ GE147.out) | exact HB.out)))); have n3_ := Aside0.mk (blk_below (g := gb147) (o := .cells #[.int .u8 t139, .int .u8 t140, .int .u8 t141, .int .u16 t142] 25 (0, 0)) (by (with_reducible repeat (first | refine blk_drewN ?_ _ | refine blk_drew ?_ | refine blk_alloc ?_ _)); refine blk_put (cs := #[.int .u8 t139, .int .u8 t140, .int .u8 t141, .int .u16 0]) ?_ 3 _ rfl; (with_reducible repeat (first | refine blk_drewN ?_ _ | refine blk_drew ?_ | refine blk_alloc ?_ _)); refine blk_put (cs := #[.int .u8 t139, .int .u8 t140, .int .u8 0, .int .u16 0]) ?_ 2 _ rfl; (with_reducible repeat (first | refine blk_drewN ?_ _ | refine blk_drew ?_ | refine blk_alloc ?_ _)); refine blk_put (cs := #[.int .u8 t139, .int .u8 0, .int .u8 0, .int .u16 0]) ?_ 1 _ rfl; (with_reducible repeat (first | refine blk_drewN ?_ _ | refine blk_drew ?_ | refine blk_alloc ?_ _)); refine blk_put (cs := #[.int .u8 0, .int .u8 0, .int .u8 0, .int .u16 0]) ?_ 0 _ rfl; (with_reducible repeat (first | refine blk_drewN ?_ _ | refine blk_drew ?_ | refine blk_alloc ?_ _)); exact BK147.out) hb); have n4_ := Aside0.mk (below_step (by repeat (first | (with_reducible first | exact HB.out | apply below_alloc | apply pw_below_drewN | apply below_drew1 | refine below_set ?_ GE147.out) | exact HB.out)) hb); clear HO138; clear HO145; clear BK147; clear HB; have HO138 := n0_; have HO145 := n1_; have HO150 := n2_; have BK147 := n3_; have HB := n4_; clear n0_ n1_ n2_ n3_ n4_; (try clear hb); (try clear hb2); (try clear hk); (try clear hi); (try clear ho0); have hcz138_0 : w137.cell? ⟨gb147, 0, none⟩ = some (.int .u8 t139) := (blk_cell BK147.out 0).trans rfl; have hcz138_1 : w137.cell? ⟨gb147, 1, none⟩ = some (.int .u8 t140) := (blk_cell BK147.out 1).trans rfl; have hcz138_2 : w137.cell? ⟨gb147, 2, none⟩ = some (.int .u8 t141) := (blk_cell BK147.out 2).trans rfl; have hcz138_3 : w137.cell? ⟨gb147, 3, none⟩ = some (.int .u16 t142) := (blk_cell BK147.out 3).trans rfl; have hfz138_0 := blk_frozen BK147.out 0; have hfz138_1 := blk_frozen BK147.out 1; have hfz138_2 := blk_frozen BK147.out 2; have hfz138_3 := blk_frozen BK147.out 3) | ((with_reducible refine gate_callee (f := 10) rfl ?_); refine goesL_ (some 37) rfl rfl Try.func10 (by kernel_rfl) rfl #[.agg #[.int .u8 t139, .int .u8 t140, .int .u8 t141, .int .u16 t142], .int .i64 30] rfl (by (try simp only [List.map_toArray, List.map_cons, List.map_nil]); first | done | rfl | (simp only [List.length_drop, List.length_take]; rfl)) ?_; (with_reducible refine (header_Answer.calls k t139 t140 t141 t142 30 t152 true _ A3.out).mono ?_); rintro e w139 ⟨v153, rfl, ho0, hb⟩; refine ⟨_, rfl, ?_⟩; have n0_ := Aside0.mk (Kd.R_elder' (by (with_reducible repeat (first | apply Kd.R_alloc | apply Kd.R_drewN | apply Kd.R_drew)); exact HO138.out) (Kd.R_base ho0) hb); have n1_ := Aside0.mk (Kd.R_elder' (by (with_reducible repeat (first | apply Kd.R_alloc | apply Kd.R_drewN | apply Kd.R_drew)); exact HO145.out) (Kd.R_base ho0) hb); have n2_ := Aside0.mk (Kd.R_elder' (by (with_reducible repeat (first | apply Kd.R_alloc | apply Kd.R_drewN | apply Kd.R_drew)); exact HO150.out) (Kd.R_base ho0) hb); have n3_ := Aside0.mk (Kd.R_lower (Kd.R_new' (Kd.R_new' (Kd.R_new' ho0 (Kd.R_lt (by (with_reducible repeat (first | apply Kd.R_alloc | apply Kd.R_drewN | apply Kd.R_drew)); exact HO138.out))) (Kd.R_lt (by (with_reducible repeat (first | apply Kd.R_alloc | apply Kd.R_drewN | apply Kd.R_drew)); exact HO145.out))) (Kd.R_lt (by (with_reducible repeat (first | apply Kd.R_alloc | apply Kd.R_drewN | apply Kd.R_drew)); exact HO150.out))) (below_size (by repeat (first | (with_reducible first | exact HB.out | apply below_alloc | apply pw_below_drewN | apply below_drew1 | refine below_set ?_ GE147.out) | exact HB.out)))); have n4_ := Aside0.mk (blk_below (g := gb147) (o := .cells #[.int .u8 t139, .int .u8 t140, .int .u8 t141, .int .u16 t142] 25 (0, 0)) (by (with_reducible repeat (first | refine blk_drewN ?_ _ | refine blk_drew ?_ | refine blk_alloc ?_ _)); exact BK147.out) hb); have n5_ := Aside0.mk (below_step (by repeat (first | (with_reducible first | exact HB.out | apply below_alloc | apply pw_below_drewN | apply below_drew1 | refine below_set ?_ GE147.out) | exact HB.out)) hb); clear HO138; clear HO145; clear HO150; clear BK147; clear HB; have HO138 := n0_; have HO145 := n1_; have HO150 := n2_; have HO154 := n3_; have BK147 := n4_; have HB := n5_; clear n0_ n1_ n2_ n3_ n4_ n5_; (try clear hb); (try clear hb2); (try clear hk); (try clear hi); (try clear ho0)) | ((with_reducible refine gate_callee (f := 10) rfl ?_); refine goesL_ (some 42) rfl rfl Try.func10 (by kernel_rfl) rfl #[.agg #[.int .u8 0, .int .u8 0, .int .u8 0, .int .u16 0], .int .i64 31] rfl (by (try simp only [List.map_toArray, List.map_cons, List.map_nil]); first | done | rfl | (simp only [List.length_drop, List.length_take]; rfl)) ?_; (with_reducible refine (header_Answer.calls k 0 0 0 0 31 t156 false _ A4.out).mono ?_); rintro e w140 ⟨v157, rfl, ho0, hb⟩; refine ⟨_, rfl, ?_⟩; have n0_ := Aside0.mk (Kd.R_elder' (by (with_reducible repeat (first | apply Kd.R_alloc | apply Kd.R_drewN | apply Kd.R_drew)); exact HO138.out) (Kd.R_base ho0) hb); have n1_ := Aside0.mk (Kd.R_elder' (by (with_reducible repeat (first | apply Kd.R_alloc | apply Kd.R_drewN | apply Kd.R_drew)); exact HO145.out) (Kd.R_base ho0) hb); have n2_ := Aside0.mk (Kd.R_elder' (by (with_reducible repeat (first | apply Kd.R_alloc | apply Kd.R_drewN | apply Kd.R_drew)); exact HO150.out) (Kd.R_base ho0) hb); have n3_ := Aside0.mk (Kd.R_elder' (by (with_reducible repeat (first | apply Kd.R_alloc | apply Kd.R_drewN | apply Kd.R_drew)); exact HO154.out) (Kd.R_base ho0) hb); have n4_ := Aside0.mk (Kd.R_lower (Kd.R_new' (Kd.R_new' (Kd.R_new' (Kd.R_new' ho0 (Kd.R_lt (by (with_reducible repeat (first | apply Kd.R_alloc | apply Kd.R_drewN | apply Kd.R_drew)); exact HO138.out))) (Kd.R_lt (by (with_reducible repeat (first | apply Kd.R_alloc | apply Kd.R_drewN | apply Kd.R_drew)); exact HO145.out))) (Kd.R_lt (by (with_reducible repeat (first | apply Kd.R_alloc | apply Kd.R_drewN | apply Kd.R_drew)); exact HO150.out))) (Kd.R_lt (by (with_reducible repeat (first | apply Kd.R_alloc | apply Kd.R_drewN | apply Kd.R_drew)); exact HO154.out))) (below_size (by repeat (first | (with_reducible first | exact HB.out | apply below_alloc | apply pw_below_drewN | apply below_drew1 | refine below_set ?_ GE147.out) | exact HB.out)))); have n5_ := Aside0.mk (blk_below (g := gb147) (o := .cells #[.int .u8 t139, .int .u8 t140, .int .u8 t141, .int .u16 t142] 25 (0, 0)) (by (with_reducible repeat (first | refine blk_drewN ?_ _ | refine blk_drew ?_ | refine blk_alloc ?_ _)); exact BK147.out) hb); have n6_ := Aside0.mk (below_step (by repeat (first | (with_reducible first | exact HB.out | apply below_alloc | apply pw_below_drewN | apply below_drew1 | refine below_set ?_ GE147.out) | exact HB.out)) hb); clear HO138; clear HO145; clear HO150; clear HO154; clear BK147; clear HB; have HO138 := n0_; have HO145 := n1_; have HO150 := n2_; have HO154 := n3_; have HO158 := n4_; have BK147 := n5_; have HB := n6_; clear n0_ n1_ n2_ n3_ n4_ n5_ n6_; (try clear hb); (try clear hb2); (try clear hk); (try clear hi); (try clear ho0); have q141 : (4 : Int) ≤ ((y136.length : Int) : Int) := of_decide_eq_true (by first | (with_reducible assumption) | assumption); obtain ⟨i0141, hi0141, _, hsz141, _⟩ := info_parts info5; have hroom141 : y136.length ≤ co133 := (Kd.R_reads' HO138.out).2.1; have hC141 : Kd.C (Kd.int .u8) _ Ao133 y136.length y136 := (Kd.R_reads' HO138.out).2.2; have hcut141 := cut_to (P := Try.prog) 22 5 .i64 Try.underlying22 hi0141 Ao133 y136.length co133 4 (by omega) q141 hroom141; have hr141 := Kd.C_take (m := 4) hC141 (by omega); have hy141 : y160.length = (4 : Int).toNat := (by rw [Ny160.out, List.length_take]; omega); rw [← Ny160.out] at hr141; rw [← hy141] at hcut141; have HR163 := Aside0.mk hr141; have HC163 := Aside0.mk (show y160.length ≤ co133 from by omega); clear hr141 hC141 hroom141 hi0141 hsz141; have KY141 := Aside0.mk hy141; clear hy141; have KL141 := Aside0.mk (show 4 ≤ y136.length from by omega); replace q141 := eq_true q141) | ((with_reducible refine gate_callee (f := 8) rfl ?_); refine goesL_ (some 48) rfl rfl Try.func8 (by kernel_rfl) rfl #[.slice Ao133 y160.length co133] rfl (by (try simp only [List.map_toArray, List.map_cons, List.map_nil]); first | done | rfl | (simp only [List.length_drop, List.length_take]; rfl)) ?_; (with_reducible refine (header_Parse.calls _ _ y160 t164 t165 t166 t167 t168 t171 _ ?side1 ?side2 A6.out).mono ?_); (case side1 => repeat (first | exact (by repeat (first | (with_reducible exact HR163.out) | (with_reducible refine Kd.C_alloc ?_ _) | (with_reducible refine Kd.C_drewN ?_ _) | (with_reducible refine Kd.C_drew ?_) | exact HR163.out)) | (with_reducible refine Kd.C_alloc ?_ _) | (with_reducible refine Kd.C_drewN ?_ _) | (with_reducible refine Kd.C_drew ?_))); (case side2 => exact HC163.out); rintro e w142 ⟨v169, rfl, ho0, hb⟩; refine ⟨_, rfl, ?_⟩; have n0_ := Aside0.mk (Kd.R_elder' (by (with_reducible repeat (first | apply Kd.R_alloc | apply Kd.R_drewN | apply Kd.R_drew)); exact HO138.out) (Kd.R_base ho0) hb); have n1_ := Aside0.mk (Kd.R_elder' (by (with_reducible repeat (first | apply Kd.R_alloc | apply Kd.R_drewN | apply Kd.R_drew)); exact HO145.out) (Kd.R_base ho0) hb); have n2_ := Aside0.mk (Kd.R_elder' (by (with_reducible repeat (first | apply Kd.R_alloc | apply Kd.R_drewN | apply Kd.R_drew)); exact HO150.out) (Kd.R_base ho0) hb); have n3_ := Aside0.mk (Kd.R_elder' (by (with_reducible repeat (first | apply Kd.R_alloc | apply Kd.R_drewN | apply Kd.R_drew)); exact HO154.out) (Kd.R_base ho0) hb); have n4_ := Aside0.mk (Kd.R_elder' (by (with_reducible repeat (first | apply Kd.R_alloc | apply Kd.R_drewN | apply Kd.R_drew)); exact HO158.out) (Kd.R_base ho0) hb); have n5_ := Aside0.mk (Kd.R_lower (Kd.R_new' (Kd.R_new' (Kd.R_new' (Kd.R_new' (Kd.R_new' ho0 (Kd.R_lt (by (with_reducible repeat (first | apply Kd.R_alloc | apply Kd.R_drewN | apply Kd.R_drew)); exact HO138.out))) (Kd.R_lt (by (with_reducible repeat (first | apply Kd.R_alloc | apply Kd.R_drewN | apply Kd.R_drew)); exact HO145.out))) (Kd.R_lt (by (with_reducible repeat (first | apply Kd.R_alloc | apply Kd.R_drewN | apply Kd.R_drew)); exact HO150.out))) (Kd.R_lt (by (with_reducible repeat (first | apply Kd.R_alloc | apply Kd.R_drewN | apply Kd.R_drew)); exact HO154.out))) (Kd.R_lt (by (with_reducible repeat (first | apply Kd.R_alloc | apply Kd.R_drewN | apply Kd.R_drew)); exact HO158.out))) (below_size (by repeat (first | (with_reducible first | exact HB.out | apply below_alloc | apply pw_below_drewN | apply below_drew1 | refine below_set ?_ GE147.out) | exact HB.out)))); have n6_ := Aside0.mk (blk_below (g := gb147) (o := .cells #[.int .u8 t139, .int .u8 t140, .int .u8 t141, .int .u16 t142] 25 (0, 0)) (by (with_reducible repeat (first | refine blk_drewN ?_ _ | refine blk_drew ?_ | refine blk_alloc ?_ _)); exact BK147.out) hb); have n7_ := Aside0.mk (Kd.C_below (by repeat (first | (with_reducible exact HR163.out) | (with_reducible refine Kd.C_alloc ?_ _) | (with_reducible refine Kd.C_drewN ?_ _) | (with_reducible refine Kd.C_drew ?_) | exact HR163.out)) hb); have n8_ := Aside0.mk (below_step (by repeat (first | (with_reducible first | exact HB.out | apply below_alloc | apply pw_below_drewN | apply below_drew1 | refine below_set ?_ GE147.out) | exact HB.out)) hb); clear HO138; clear HO145; clear HO150; clear HO154; clear HO158; clear BK147; clear HR163; clear HB; have HO138 := n0_; have HO145 := n1_; have HO150 := n2_; have HO154 := n3_; have HO158 := n4_; have HO170 := n5_; have BK147 := n6_; have HR163 := n7_; have HB := n8_; clear n0_ n1_ n2_ n3_ n4_ n5_ n6_ n7_ n8_; (try clear hb); (try clear hb2); (try clear hk); (try clear hi); (try clear ho0)) | ((with_reducible refine gate_dst (N := 11) rfl ?_); refine box_event ?hg (N := 11) ?hd (cs := #[.int .u8 0, .int .u8 0, .int .u8 0, .int .u16 0]) (t := 25) ?hr ?_; (case hd => rfl); (case hg => rfl); (case hr => first | (go_simp; done) | (go_simp; rfl)); intro gb172 hg w143 hbox hb; have n0_ := Aside0.mk (Kd.R_below (by (with_reducible repeat (first | apply Kd.R_alloc | apply Kd.R_drewN | apply Kd.R_drew)); exact HO138.out) hb); have n1_ := Aside0.mk (Kd.R_below (by (with_reducible repeat (first | apply Kd.R_alloc | apply Kd.R_drewN | apply Kd.R_drew)); exact HO145.out) hb); have n2_ := Aside0.mk (Kd.R_below (by (with_reducible repeat (first | apply Kd.R_alloc | apply Kd.R_drewN | apply Kd.R_drew)); exact HO150.out) hb); have n3_ := Aside0.mk (Kd.R_below (by (with_reducible repeat (first | apply Kd.R_alloc | apply Kd.R_drewN | apply Kd.R_drew)); exact HO154.out) hb); have n4_ := Aside0.mk (Kd.R_below (by (with_reducible repeat (first | apply Kd.R_alloc | apply Kd.R_drewN | apply Kd.R_drew)); exact HO158.out) hb); have n5_ := Aside0.mk (Kd.R_below (by (with_reducible repeat (first | apply Kd.R_alloc | apply Kd.R_drewN | apply Kd.R_drew)); exact HO170.out) hb); have n6_ := Aside0.mk (blk_below (g := gb147) (o := .cells #[.int .u8 t139, .int .u8 t140, .int .u8 t141, .int .u16 t142] 25 (0, 0)) (by (with_reducible repeat (first | refine blk_drewN ?_ _ | refine blk_drew ?_ | refine blk_alloc ?_ _)); exact BK147.out) hb); have n7_ := Aside0.mk (Kd.C_below (by repeat (first | (with_reducible exact HR163.out) | (with_reducible refine Kd.C_alloc ?_ _) | (with_reducible refine Kd.C_drewN ?_ _) | (with_reducible refine Kd.C_drew ?_) | exact HR163.out)) hb); have n8_ := Aside0.mk (below_step (by repeat (first | (with_reducible first | exact HB.out | apply below_alloc | apply pw_below_drewN | apply below_drew1 | refine below_set ?_ GE147.out) | exact HB.out)) hb); have n9_ := Aside0.mk (hbox); have n10_ := Aside0.mk ((by rw [hg]; exact (below_size (by repeat (first | (with_reducible first | exact HB.out | apply below_alloc | apply pw_below_drewN | apply below_drew1 | refine below_set ?_ GE147.out) | exact HB.out))) : w.heap.size ≤ gb172)); have n11_ := Aside0.mk ((by rw [hg]; exact (below_size (by repeat (first | (with_reducible first | exact HB.out | apply below_alloc | apply pw_below_drewN | apply below_drew1 | refine below_set ?_ GE147.out) | exact HB.out))) : w.heap.size ≤ gb172)); have n12_ := Aside0.mk ((by rw [hg]; exact Nat.ne_of_lt (blk_lt (g := gb147) (o := .cells #[.int .u8 t139, .int .u8 t140, .int .u8 t141, .int .u16 t142] 25 (0, 0)) (by (with_reducible repeat (first | refine blk_drewN ?_ _ | refine blk_drew ?_ | refine blk_alloc ?_ _)); exact BK147.out)) : gb147 ≠ gb172)); have n13_ := Aside0.mk ((by rw [hg]; exact Nat.ne_of_gt (blk_lt (g := gb147) (o := .cells #[.int .u8 t139, .int .u8 t140, .int .u8 t141, .int .u16 t142] 25 (0, 0)) (by (with_reducible repeat (first | refine blk_drewN ?_ _ | refine blk_drew ?_ | refine blk_alloc ?_ _)); exact BK147.out)) : gb172 ≠ gb147)); clear HO138; clear HO145; clear HO150; clear HO154; clear HO158; clear HO170; clear BK147; clear HR163; clear HB; have HO138 := n0_; have HO145 := n1_; have HO150 := n2_; have HO154 := n3_; have HO158 := n4_; have HO170 := n5_; have BK147 := n6_; have HR163 := n7_; have HB := n8_; have BK172 := n9_; have GW172 := n10_; have GE172 := n11_; have NB147_172 := n12_; have NB172_147 := n13_; clear n0_ n1_ n2_ n3_ n4_ n5_ n6_ n7_ n8_ n9_ n10_ n11_ n12_ n13_; clear hb hbox hg; have hnb144 := NB172_147.out; have hnc144 := NB147_172.out; have hcz145_0 : w143.cell? ⟨gb172, 0, none⟩ = some (.int .u8 0) := (blk_cell BK172.out 0).trans rfl; have hcz145_1 : w143.cell? ⟨gb172, 1, none⟩ = some (.int .u8 0) := (blk_cell BK172.out 1).trans rfl; have hcz145_2 : w143.cell? ⟨gb172, 2, none⟩ = some (.int .u8 0) := (blk_cell BK172.out 2).trans rfl; have hcz145_3 : w143.cell? ⟨gb172, 3, none⟩ = some (.int .u16 0) := (blk_cell BK172.out 3).trans rfl; have hfz145_0 := blk_frozen BK172.out 0; have hfz145_1 := blk_frozen BK172.out 1; have hfz145_2 := blk_frozen BK172.out 2; have hfz145_3 := blk_frozen BK172.out 3; obtain ⟨Ao146, co146, eo146⟩ := Kd.R_slice HO154.out; subst eo146) | ((with_reducible refine gate_callee (f := 8) rfl ?_); refine goesL_ (some 54) rfl rfl Try.func8 (by kernel_rfl) rfl #[.slice Ao146 t152.length co146] rfl (by (try simp only [List.map_toArray, List.map_cons, List.map_nil]); first | done | rfl | (simp only [List.length_drop, List.length_take]; rfl)) ?_; (with_reducible refine (header_Parse.calls _ _ t152 t173 t174 t175 t176 t177 t180 _ ?side1 ?side2 A7.out).mono ?_); (case side1 => refine (Kd.R_reads' (e := 5) (base := w.heap.size) (ok := fun k_ => (((((True ∧ some k_ ≠ (.slice Ao133 y136.length co133 : Value).ownBlock) ∧ some k_ ≠ (v144 : Value).ownBlock) ∧ some k_ ≠ (v149 : Value).ownBlock) ∧ some k_ ≠ (v157 : Value).ownBlock) ∧ some k_ ≠ (v169 : Value).ownBlock)) (n := t152.length) (c := co146) ?_).2.2; exact (by (with_reducible repeat (first | apply Kd.R_alloc | apply Kd.R_drewN | apply Kd.R_drew)); exact (Kd.R_mono (Kd.R_far (p := ⟨gb172, 3, none⟩) (Kd.R_far (p := ⟨gb172, 2, none⟩) (Kd.R_far (p := ⟨gb172, 1, none⟩) (Kd.R_far (p := ⟨gb172, 0, none⟩) (Kd.R_types HO154.out BK172.out (by decide)) (fun _ hk => hk.2) (.int .u8 t164)) (fun _ hk => hk.2) (.int .u8 t165)) (fun _ hk => hk.2) (.int .u8 t166)) (fun _ hk => hk.2) (.int .u16 t167)) (fun _ h_ => h_.1)))); (case side2 => exact (Kd.R_reads' HO154.out).2.1); rintro e w147 ⟨v178, rfl, ho0, hb⟩; refine ⟨_, rfl, ?_⟩; have n0_ := Aside0.mk (Kd.R_elder' (by (with_reducible repeat (first | apply Kd.R_alloc | apply Kd.R_drewN | apply Kd.R_drew)); exact (Kd.R_mono (Kd.R_far (p := ⟨gb172, 3, none⟩) (Kd.R_far (p := ⟨gb172, 2, none⟩) (Kd.R_far (p := ⟨gb172, 1, none⟩) (Kd.R_far (p := ⟨gb172, 0, none⟩) (Kd.R_types HO138.out BK172.out (by decide)) (fun _ hk => hk.2) (.int .u8 t164)) (fun _ hk => hk.2) (.int .u8 t165)) (fun _ hk => hk.2) (.int .u8 t166)) (fun _ hk => hk.2) (.int .u16 t167)) (fun _ h_ => h_.1))) (Kd.R_base ho0) hb); have n1_ := Aside0.mk (Kd.R_elder' (by (with_reducible repeat (first | apply Kd.R_alloc | apply Kd.R_drewN | apply Kd.R_drew)); exact (Kd.R_mono (Kd.R_far (p := ⟨gb172, 3, none⟩) (Kd.R_far (p := ⟨gb172, 2, none⟩) (Kd.R_far (p := ⟨gb172, 1, none⟩) (Kd.R_far (p := ⟨gb172, 0, none⟩) (Kd.R_types HO145.out BK172.out (by decide)) (fun _ hk => hk.2) (.int .u8 t164)) (fun _ hk => hk.2) (.int .u8 t165)) (fun _ hk => hk.2) (.int .u8 t166)) (fun _ hk => hk.2) (.int .u16 t167)) (fun _ h_ => h_.1))) (Kd.R_base ho0) hb); have n2_ := Aside0.mk (Kd.R_elder' (by (with_reducible repeat (first | apply Kd.R_alloc | apply Kd.R_drewN | apply Kd.R_drew)); exact (Kd.R_mono (Kd.R_far (p := ⟨gb172, 3, none⟩) (Kd.R_far (p := ⟨gb172, 2, none⟩) (Kd.R_far (p := ⟨gb172, 1, none⟩) (Kd.R_far (p := ⟨gb172, 0, none⟩) (Kd.R_types HO150.out BK172.out (by decide)) (fun _ hk => hk.2) (.int .u8 t164)) (fun _ hk => hk.2) (.int .u8 t165)) (fun _ hk => hk.2) (.int .u8 t166)) (fun _ hk => hk.2) (.int .u16 t167)) (fun _ h_ => h_.1))) (Kd.R_base ho0) hb); have n3_ := Aside0.mk (Kd.R_elder' (by (with_reducible repeat (first | apply Kd.R_alloc | apply Kd.R_drewN | apply Kd.R_drew)); exact (Kd.R_mono (Kd.R_far (p := ⟨gb172, 3, none⟩) (Kd.R_far (p := ⟨gb172, 2, none⟩) (Kd.R_far (p := ⟨gb172, 1, none⟩) (Kd.R_far (p := ⟨gb172, 0, none⟩) (Kd.R_types HO154.out BK172.out (by decide)) (fun _ hk => hk.2) (.int .u8 t164)) (fun _ hk => hk.2) (.int .u8 t165)) (fun _ hk => hk.2) (.int .u8 t166)) (fun _ hk => hk.2) (.int .u16 t167)) (fun _ h_ => h_.1))) (Kd.R_base ho0) hb); have n4_ := Aside0.mk (Kd.R_elder' (by (with_reducible repeat (first | apply Kd.R_alloc | apply Kd.R_drewN | apply Kd.R_drew)); exact (Kd.R_mono (Kd.R_far (p := ⟨gb172, 3, none⟩) (Kd.R_far (p := ⟨gb172, 2, none⟩) (Kd.R_far (p := ⟨gb172, 1, none⟩) (Kd.R_far (p := ⟨gb172, 0, none⟩) (Kd.R_types HO158.out BK172.out (by decide)) (fun _ hk => hk.2) (.int .u8 t164)) (fun _ hk => hk.2) (.int .u8 t165)) (fun _ hk => hk.2) (.int .u8 t166)) (fun _ hk => hk.2) (.int .u16 t167)) (fun _ h_ => h_.1))) (Kd.R_base ho0) hb); have n5_ := Aside0.mk (Kd.R_elder' (by (with_reducible repeat (first | apply Kd.R_alloc | apply Kd.R_drewN | apply Kd.R_drew)); exact (Kd.R_mono (Kd.R_far (p := ⟨gb172, 3, none⟩) (Kd.R_far (p := ⟨gb172, 2, none⟩) (Kd.R_far (p := ⟨gb172, 1, none⟩) (Kd.R_far (p := ⟨gb172, 0, none⟩) (Kd.R_types HO170.out BK172.out (by decide)) (fun _ hk => hk.2) (.int .u8 t164)) (fun _ hk => hk.2) (.int .u8 t165)) (fun _ hk => hk.2) (.int .u8 t166)) (fun _ hk => hk.2) (.int .u16 t167)) (fun _ h_ => h_.1))) (Kd.R_base ho0) hb); have n6_ := Aside0.mk (Kd.R_lower (Kd.R_new' (Kd.R_new' (Kd.R_new' (Kd.R_new' (Kd.R_new' (Kd.R_new' ho0 (Kd.R_lt (by (with_reducible repeat (first | apply Kd.R_alloc | apply Kd.R_drewN | apply Kd.R_drew)); exact (Kd.R_mono (Kd.R_far (p := ⟨gb172, 3, none⟩) (Kd.R_far (p := ⟨gb172, 2, none⟩) (Kd.R_far (p := ⟨gb172, 1, none⟩) (Kd.R_far (p := ⟨gb172, 0, none⟩) (Kd.R_types HO138.out BK172.out (by decide)) (fun _ hk => hk.2) (.int .u8 t164)) (fun _ hk => hk.2) (.int .u8 t165)) (fun _ hk => hk.2) (.int .u8 t166)) (fun _ hk => hk.2) (.int .u16 t167)) (fun _ h_ => h_.1))))) (Kd.R_lt (by (with_reducible repeat (first | apply Kd.R_alloc | apply Kd.R_drewN | apply Kd.R_drew)); exact (Kd.R_mono (Kd.R_far (p := ⟨gb172, 3, none⟩) (Kd.R_far (p := ⟨gb172, 2, none⟩) (Kd.R_far (p := ⟨gb172, 1, none⟩) (Kd.R_far (p := ⟨gb172, 0, none⟩) (Kd.R_types HO145.out BK172.out (by decide)) (fun _ hk => hk.2) (.int .u8 t164)) (fun _ hk => hk.2) (.int .u8 t165)) (fun _ hk => hk.2) (.int .u8 t166)) (fun _ hk => hk.2) (.int .u16 t167)) (fun _ h_ => h_.1))))) (Kd.R_lt (by (with_reducible repeat (first | apply Kd.R_alloc | apply Kd.R_drewN | apply Kd.R_drew)); exact (Kd.R_mono (Kd.R_far (p := ⟨gb172, 3, none⟩) (Kd.R_far (p := ⟨gb172, 2, none⟩) (Kd.R_far (p := ⟨gb172, 1, none⟩) (Kd.R_far (p := ⟨gb172, 0, none⟩) (Kd.R_types HO150.out BK172.out (by decide)) (fun _ hk => hk.2) (.int .u8 t164)) (fun _ hk => hk.2) (.int .u8 t165)) (fun _ hk => hk.2) (.int .u8 t166)) (fun _ hk => hk.2) (.int .u16 t167)) (fun _ h_ => h_.1))))) (Kd.R_lt (by (with_reducible repeat (first | apply Kd.R_alloc | apply Kd.R_drewN | apply Kd.R_drew)); exact (Kd.R_mono (Kd.R_far (p := ⟨gb172, 3, none⟩) (Kd.R_far (p := ⟨gb172, 2, none⟩) (Kd.R_far (p := ⟨gb172, 1, none⟩) (Kd.R_far (p := ⟨gb172, 0, none⟩) (Kd.R_types HO154.out BK172.out (by decide)) (fun _ hk => hk.2) (.int .u8 t164)) (fun _ hk => hk.2) (.int .u8 t165)) (fun _ hk => hk.2) (.int .u8 t166)) (fun _ hk => hk.2) (.int .u16 t167)) (fun _ h_ => h_.1))))) (Kd.R_lt (by (with_reducible repeat (first | apply Kd.R_alloc | apply Kd.R_drewN | apply Kd.R_drew)); exact (Kd.R_mono (Kd.R_far (p := ⟨gb172, 3, none⟩) (Kd.R_far (p := ⟨gb172, 2, none⟩) (Kd.R_far (p := ⟨gb172, 1, none⟩) (Kd.R_far (p := ⟨gb172, 0, none⟩) (Kd.R_types HO158.out BK172.out (by decide)) (fun _ hk => hk.2) (.int .u8 t164)) (fun _ hk => hk.2) (.int .u8 t165)) (fun _ hk => hk.2) (.int .u8 t166)) (fun _ hk => hk.2) (.int .u16 t167)) (fun _ h_ => h_.1))))) (Kd.R_lt (by (with_reducible repeat (first | apply Kd.R_alloc | apply Kd.R_drewN | apply Kd.R_drew)); exact (Kd.R_mono (Kd.R_far (p := ⟨gb172, 3, none⟩) (Kd.R_far (p := ⟨gb172, 2, none⟩) (Kd.R_far (p := ⟨gb172, 1, none⟩) (Kd.R_far (p := ⟨gb172, 0, none⟩) (Kd.R_types HO170.out BK172.out (by decide)) (fun _ hk => hk.2) (.int .u8 t164)) (fun _ hk => hk.2) (.int .u8 t165)) (fun _ hk => hk.2) (.int .u8 t166)) (fun _ hk => hk.2) (.int .u16 t167)) (fun _ h_ => h_.1))))) (below_size (by repeat (first | (with_reducible first | exact HB.out | apply below_alloc | apply pw_below_drewN | apply below_drew1 | refine below_set ?_ GE147.out | refine below_set ?_ GE172.out) | exact HB.out)))); have n7_ := Aside0.mk (blk_below (g := gb147) (o := .cells #[.int .u8 t139, .int .u8 t140, .int .u8 t141, .int .u16 t142] 25 (0, 0)) (by (with_reducible repeat (first | refine blk_drewN ?_ _ | refine blk_drew ?_ | refine blk_alloc ?_ _)); refine blk_far ?_ NB147_172.out _; (with_reducible repeat (first | refine blk_drewN ?_ _ | refine blk_drew ?_ | refine blk_alloc ?_ _)); refine blk_far ?_ NB147_172.out _; (with_reducible repeat (first | refine blk_drewN ?_ _ | refine blk_drew ?_ | refine blk_alloc ?_ _)); refine blk_far ?_ NB147_172.out _; (with_reducible repeat (first | refine blk_drewN ?_ _ | refine blk_drew ?_ | refine blk_alloc ?_ _)); refine blk_far ?_ NB147_172.out _; (with_reducible repeat (first | refine blk_drewN ?_ _ | refine blk_drew ?_ | refine blk_alloc ?_ _)); exact BK147.out) hb); have n8_ := Aside0.mk (blk_below (g := gb172) (o := .cells #[.int .u8 t164, .int .u8 t165, .int .u8 t166, .int .u16 t167] 25 (0, 0)) (by (with_reducible repeat (first | refine blk_drewN ?_ _ | refine blk_drew ?_ | refine blk_alloc ?_ _)); refine blk_put (cs := #[.int .u8 t164, .int .u8 t165, .int .u8 t166, .int .u16 0]) ?_ 3 _ rfl; (with_reducible repeat (first | refine blk_drewN ?_ _ | refine blk_drew ?_ | refine blk_alloc ?_ _)); refine blk_put (cs := #[.int .u8 t164, .int .u8 t165, .int .u8 0, .int .u16 0]) ?_ 2 _ rfl; (with_reducible repeat (first | refine blk_drewN ?_ _ | refine blk_drew ?_ | refine blk_alloc ?_ _)); refine blk_put (cs := #[.int .u8 t164, .int .u8 0, .int .u8 0, .int .u16 0]) ?_ 1 _ rfl; (with_reducible repeat (first | refine blk_drewN ?_ _ | refine blk_drew ?_ | refine blk_alloc ?_ _)); refine blk_put (cs := #[.int .u8 0, .int .u8 0, .int .u8 0, .int .u16 0]) ?_ 0 _ rfl; (with_reducible repeat (first | refine blk_drewN ?_ _ | refine blk_drew ?_ | refine blk_alloc ?_ _)); exact BK172.out) hb); have n9_ := Aside0.mk (below_step (by repeat (first | (with_reducible first | exact HB.out | apply below_alloc | apply pw_below_drewN | apply below_drew1 | refine below_set ?_ GE147.out | refine below_set ?_ GE172.out) | exact HB.out)) hb); clear HO138; clear HO145; clear HO150; clear HO154; clear HO158; clear HO170; clear BK147; clear BK172; clear HB; have HO138 := n0_; have HO145 := n1_; have HO150 := n2_; have HO154 := n3_; have HO158 := n4_; have HO170 := n5_; have HO179 := n6_; have BK147 := n7_; have BK172 := n8_; have HB := n9_; clear n0_ n1_ n2_ n3_ n4_ n5_ n6_ n7_ n8_ n9_; (try clear hb); (try clear hb2); (try clear hk); (try clear hi); (try clear ho0)) | ((with_reducible refine gate_dst (N := 14) rfl ?_); refine box_event ?hg (N := 14) ?hd (cs := #[.int .u8 0, .int .u8 0, .int .u8 0, .int .u16 0]) (t := 25) ?hr ?_; (case hd => rfl); (case hg => rfl); (case hr => first | (go_simp; done) | (go_simp; rfl)); intro gb181 hg w148 hbox hb; have n0_ := Aside0.mk (Kd.R_below (by (with_reducible repeat (first | apply Kd.R_alloc | apply Kd.R_drewN | apply Kd.R_drew)); exact HO138.out) hb); have n1_ := Aside0.mk (Kd.R_below (by (with_reducible repeat (first | apply Kd.R_alloc | apply Kd.R_drewN | apply Kd.R_drew)); exact HO145.out) hb); have n2_ := Aside0.mk (Kd.R_below (by (with_reducible repeat (first | apply Kd.R_alloc | apply Kd.R_drewN | apply Kd.R_drew)); exact HO150.out) hb); have n3_ := Aside0.mk (Kd.R_below (by (with_reducible repeat (first | apply Kd.R_alloc | apply Kd.R_drewN | apply Kd.R_drew)); exact HO154.out) hb); have n4_ := Aside0.mk (Kd.R_below (by (with_reducible repeat (first | apply Kd.R_alloc | apply Kd.R_drewN | apply Kd.R_drew)); exact HO158.out) hb); have n5_ := Aside0.mk (Kd.R_below (by (with_reducible repeat (first | apply Kd.R_alloc | apply Kd.R_drewN | apply Kd.R_drew)); exact HO170.out) hb); have n6_ := Aside0.mk (Kd.R_below (by (with_reducible repeat (first | apply Kd.R_alloc | apply Kd.R_drewN | apply Kd.R_drew)); exact HO179.out) hb); have n7_ := Aside0.mk (blk_below (g := gb147) (o := .cells #[.int .u8 t139, .int .u8 t140, .int .u8 t141, .int .u16 t142] 25 (0, 0)) (by (with_reducible repeat (first | refine blk_drewN ?_ _ | refine blk_drew ?_ | refine blk_alloc ?_ _)); exact BK147.out) hb); have n8_ := Aside0.mk (blk_below (g := gb172) (o := .cells #[.int .u8 t164, .int .u8 t165, .int .u8 t166, .int .u16 t167] 25 (0, 0)) (by (with_reducible repeat (first | refine blk_drewN ?_ _ | refine blk_drew ?_ | refine blk_alloc ?_ _)); exact BK172.out) hb); have n9_ := Aside0.mk (below_step (by repeat (first | (with_reducible first | exact HB.out | apply below_alloc | apply pw_below_drewN | apply below_drew1 | refine below_set ?_ GE147.out | refine below_set ?_ GE172.out) | exact HB.out)) hb); have n10_ := Aside0.mk (hbox); have n11_ := Aside0.mk ((by rw [hg]; exact (below_size (by repeat (first | (with_reducible first | exact HB.out | apply below_alloc | apply pw_below_drewN | apply below_drew1 | refine below_set ?_ GE147.out | refine below_set ?_ GE172.out) | exact HB.out))) : w.heap.size ≤ gb181)); have n12_ := Aside0.mk ((by rw [hg]; exact (below_size (by repeat (first | (with_reducible first | exact HB.out | apply below_alloc | apply pw_below_drewN | apply below_drew1 | refine below_set ?_ GE147.out | refine below_set ?_ GE172.out) | exact HB.out))) : w.heap.size ≤ gb181)); have n13_ := Aside0.mk ((by rw [hg]; exact Nat.ne_of_lt (blk_lt (g := gb147) (o := .cells #[.int .u8 t139, .int .u8 t140, .int .u8 t141, .int .u16 t142] 25 (0, 0)) (by (with_reducible repeat (first | refine blk_drewN ?_ _ | refine blk_drew ?_ | refine blk_alloc ?_ _)); exact BK147.out)) : gb147 ≠ gb181)); have n14_ := Aside0.mk ((by rw [hg]; exact Nat.ne_of_gt (blk_lt (g := gb147) (o := .cells #[.int .u8 t139, .int .u8 t140, .int .u8 t141, .int .u16 t142] 25 (0, 0)) (by (with_reducible repeat (first | refine blk_drewN ?_ _ | refine blk_drew ?_ | refine blk_alloc ?_ _)); exact BK147.out)) : gb181 ≠ gb147)); have n15_ := Aside0.mk ((by rw [hg]; exact Nat.ne_of_lt (blk_lt (g := gb172) (o := .cells #[.int .u8 t164, .int .u8 t165, .int .u8 t166, .int .u16 t167] 25 (0, 0)) (by (with_reducible repeat (first | refine blk_drewN ?_ _ | refine blk_drew ?_ | refine blk_alloc ?_ _)); exact BK172.out)) : gb172 ≠ gb181)); have n16_ := Aside0.mk ((by rw [hg]; exact Nat.ne_of_gt (blk_lt (g := gb172) (o := .cells #[.int .u8 t164, .int .u8 t165, .int .u8 t166, .int .u16 t167] 25 (0, 0)) (by (with_reducible repeat (first | refine blk_drewN ?_ _ | refine blk_drew ?_ | refine blk_alloc ?_ _)); exact BK172.out)) : gb181 ≠ gb172)); clear HO138; clear HO145; clear HO150; clear HO154; clear HO158; clear HO170; clear HO179; clear BK147; clear BK172; clear HB; have HO138 := n0_; have HO145 := n1_; have HO150 := n2_; have HO154 := n3_; have HO158 := n4_; have HO170 := n5_; have HO179 := n6_; have BK147 := n7_; have BK172 := n8_; have HB := n9_; have BK181 := n10_; have GW181 := n11_; have GE181 := n12_; have NB147_181 := n13_; have NB181_147 := n14_; have NB172_181 := n15_; have NB181_172 := n16_; clear n0_ n1_ n2_ n3_ n4_ n5_ n6_ n7_ n8_ n9_ n10_ n11_ n12_ n13_ n14_ n15_ n16_; clear hb hbox hg; have hnb149 := NB181_147.out; have hnc149 := NB147_181.out; have hnb150 := NB181_172.out; have hnc150 := NB172_181.out; have hcz151_0 : w148.cell? ⟨gb181, 0, none⟩ = some (.int .u8 0) := (blk_cell BK181.out 0).trans rfl; have hcz151_1 : w148.cell? ⟨gb181, 1, none⟩ = some (.int .u8 0) := (blk_cell BK181.out 1).trans rfl; have hcz151_2 : w148.cell? ⟨gb181, 2, none⟩ = some (.int .u8 0) := (blk_cell BK181.out 2).trans rfl; have hcz151_3 : w148.cell? ⟨gb181, 3, none⟩ = some (.int .u16 0) := (blk_cell BK181.out 3).trans rfl; have hfz151_0 := blk_frozen BK181.out 0; have hfz151_1 := blk_frozen BK181.out 1; have hfz151_2 := blk_frozen BK181.out 2; have hfz151_3 := blk_frozen BK181.out 3; obtain ⟨Ao152, co152, eo152⟩ := Kd.R_slice HO179.out; subst eo152) | ((with_reducible refine gate_callee (f := 13) rfl ?_); refine goesL_ (some 61) rfl rfl Try.func13 (by kernel_rfl) rfl #[.agg #[.int .u8 t173, .int .u8 t174, .int .u8 t175, .int .u16 t176], .slice Ao152 t177.length co152] rfl (by (try simp only [List.map_toArray, List.map_cons, List.map_nil]); first | done | rfl | (simp only [List.length_drop, List.length_take]; rfl)) ?_; (with_reducible refine (header_Sense.calls t173 t174 t175 t176 _ _ t177 t182 false true _ ?side1 ?side2 A8.out).mono ?_); (case side1 => refine (Kd.R_reads' (e := 5) (base := w.heap.size) (ok := fun k_ => ((((((True ∧ some k_ ≠ (.slice Ao133 y136.length co133 : Value).ownBlock) ∧ some k_ ≠ (v144 : Value).ownBlock) ∧ some k_ ≠ (v149 : Value).ownBlock) ∧ some k_ ≠ (.slice Ao146 t152.length co146 : Value).ownBlock) ∧ some k_ ≠ (v157 : Value).ownBlock) ∧ some k_ ≠ (v169 : Value).ownBlock)) (n := t177.length) (c := co152) ?_).2.2; exact (by (with_reducible repeat (first | apply Kd.R_alloc | apply Kd.R_drewN | apply Kd.R_drew)); exact (Kd.R_mono (Kd.R_far (p := ⟨gb181, 3, none⟩) (Kd.R_far (p := ⟨gb181, 2, none⟩) (Kd.R_far (p := ⟨gb181, 1, none⟩) (Kd.R_far (p := ⟨gb181, 0, none⟩) (Kd.R_types HO179.out BK181.out (by decide)) (fun _ hk => hk.2) (.int .u8 t173)) (fun _ hk => hk.2) (.int .u8 t174)) (fun _ hk => hk.2) (.int .u8 t175)) (fun _ hk => hk.2) (.int .u16 t176)) (fun _ h_ => h_.1)))); (case side2 => exact (Kd.R_reads' HO179.out).2.1); rintro e w153 ⟨rfl, hb⟩; refine ⟨_, rfl, ?_⟩; have n0_ := Aside0.mk (Kd.R_below (by (with_reducible repeat (first | apply Kd.R_alloc | apply Kd.R_drewN | apply Kd.R_drew)); exact (Kd.R_mono (Kd.R_far (p := ⟨gb181, 3, none⟩) (Kd.R_far (p := ⟨gb181, 2, none⟩) (Kd.R_far (p := ⟨gb181, 1, none⟩) (Kd.R_far (p := ⟨gb181, 0, none⟩) (Kd.R_types HO138.out BK181.out (by decide)) (fun _ hk => hk.2) (.int .u8 t173)) (fun _ hk => hk.2) (.int .u8 t174)) (fun _ hk => hk.2) (.int .u8 t175)) (fun _ hk => hk.2) (.int .u16 t176)) (fun _ h_ => h_.1))) hb); have n1_ := Aside0.mk (Kd.R_below (by (with_reducible repeat (first | apply Kd.R_alloc | apply Kd.R_drewN | apply Kd.R_drew)); exact (Kd.R_mono (Kd.R_far (p := ⟨gb181, 3, none⟩) (Kd.R_far (p := ⟨gb181, 2, none⟩) (Kd.R_far (p := ⟨gb181, 1, none⟩) (Kd.R_far (p := ⟨gb181, 0, none⟩) (Kd.R_types HO145.out BK181.out (by decide)) (fun _ hk => hk.2) (.int .u8 t173)) (fun _ hk => hk.2) (.int .u8 t174)) (fun _ hk => hk.2) (.int .u8 t175)) (fun _ hk => hk.2) (.int .u16 t176)) (fun _ h_ => h_.1))) hb); have n2_ := Aside0.mk (Kd.R_below (by (with_reducible repeat (first | apply Kd.R_alloc | apply Kd.R_drewN | apply Kd.R_drew)); exact (Kd.R_mono (Kd.R_far (p := ⟨gb181, 3, none⟩) (Kd.R_far (p := ⟨gb181, 2, none⟩) (Kd.R_far (p := ⟨gb181, 1, none⟩) (Kd.R_far (p := ⟨gb181, 0, none⟩) (Kd.R_types HO150.out BK181.out (by decide)) (fun _ hk => hk.2) (.int .u8 t173)) (fun _ hk => hk.2) (.int .u8 t174)) (fun _ hk => hk.2) (.int .u8 t175)) (fun _ hk => hk.2) (.int .u16 t176)) (fun _ h_ => h_.1))) hb); have n3_ := Aside0.mk (Kd.R_below (by (with_reducible repeat (first | apply Kd.R_alloc | apply Kd.R_drewN | apply Kd.R_drew)); exact (Kd.R_mono (Kd.R_far (p := ⟨gb181, 3, none⟩) (Kd.R_far (p := ⟨gb181, 2, none⟩) (Kd.R_far (p := ⟨gb181, 1, none⟩) (Kd.R_far (p := ⟨gb181, 0, none⟩) (Kd.R_types HO154.out BK181.out (by decide)) (fun _ hk => hk.2) (.int .u8 t173)) (fun _ hk => hk.2) (.int .u8 t174)) (fun _ hk => hk.2) (.int .u8 t175)) (fun _ hk => hk.2) (.int .u16 t176)) (fun _ h_ => h_.1))) hb); have n4_ := Aside0.mk (Kd.R_below (by (with_reducible repeat (first | apply Kd.R_alloc | apply Kd.R_drewN | apply Kd.R_drew)); exact (Kd.R_mono (Kd.R_far (p := ⟨gb181, 3, none⟩) (Kd.R_far (p := ⟨gb181, 2, none⟩) (Kd.R_far (p := ⟨gb181, 1, none⟩) (Kd.R_far (p := ⟨gb181, 0, none⟩) (Kd.R_types HO158.out BK181.out (by decide)) (fun _ hk => hk.2) (.int .u8 t173)) (fun _ hk => hk.2) (.int .u8 t174)) (fun _ hk => hk.2) (.int .u8 t175)) (fun _ hk => hk.2) (.int .u16 t176)) (fun _ h_ => h_.1))) hb); have n5_ := Aside0.mk (Kd.R_below (by (with_reducible repeat (first | apply Kd.R_alloc | apply Kd.R_drewN | apply Kd.R_drew)); exact (Kd.R_mono (Kd.R_far (p := ⟨gb181, 3, none⟩) (Kd.R_far (p := ⟨gb181, 2, none⟩) (Kd.R_far (p := ⟨gb181, 1, none⟩) (Kd.R_far (p := ⟨gb181, 0, none⟩) (Kd.R_types HO170.out BK181.out (by decide)) (fun _ hk => hk.2) (.int .u8 t173)) (fun _ hk => hk.2) (.int .u8 t174)) (fun _ hk => hk.2) (.int .u8 t175)) (fun _ hk => hk.2) (.int .u16 t176)) (fun _ h_ => h_.1))) hb); have n6_ := Aside0.mk (Kd.R_below (by (with_reducible repeat (first | apply Kd.R_alloc | apply Kd.R_drewN | apply Kd.R_drew)); exact (Kd.R_mono (Kd.R_far (p := ⟨gb181, 3, none⟩) (Kd.R_far (p := ⟨gb181, 2, none⟩) (Kd.R_far (p := ⟨gb181, 1, none⟩) (Kd.R_far (p := ⟨gb181, 0, none⟩) (Kd.R_types HO179.out BK181.out (by decide)) (fun _ hk => hk.2) (.int .u8 t173)) (fun _ hk => hk.2) (.int .u8 t174)) (fun _ hk => hk.2) (.int .u8 t175)) (fun _ hk => hk.2) (.int .u16 t176)) (fun _ h_ => h_.1))) hb); have n7_ := Aside0.mk (blk_below (g := gb147) (o := .cells #[.int .u8 t139, .int .u8 t140, .int .u8 t141, .int .u16 t142] 25 (0, 0)) (by (with_reducible repeat (first | refine blk_drewN ?_ _ | refine blk_drew ?_ | refine blk_alloc ?_ _)); refine blk_far ?_ NB147_181.out _; (with_reducible repeat (first | refine blk_drewN ?_ _ | refine blk_drew ?_ | refine blk_alloc ?_ _)); refine blk_far ?_ NB147_181.out _; (with_reducible repeat (first | refine blk_drewN ?_ _ | refine blk_drew ?_ | refine blk_alloc ?_ _)); refine blk_far ?_ NB147_181.out _; (with_reducible repeat (first | refine blk_drewN ?_ _ | refine blk_drew ?_ | refine blk_alloc ?_ _)); refine blk_far ?_ NB147_181.out _; (with_reducible repeat (first | refine blk_drewN ?_ _ | refine blk_drew ?_ | refine blk_alloc ?_ _)); exact BK147.out) hb); have n8_ := Aside0.mk (blk_below (g := gb172) (o := .cells #[.int .u8 t164, .int .u8 t165, .int .u8 t166, .int .u16 t167] 25 (0, 0)) (by (with_reducible repeat (first | refine blk_drewN ?_ _ | refine blk_drew ?_ | refine blk_alloc ?_ _)); refine blk_far ?_ NB172_181.out _; (with_reducible repeat (first | refine blk_drewN ?_ _ | refine blk_drew ?_ | refine blk_alloc ?_ _)); refine blk_far ?_ NB172_181.out _; (with_reducible repeat (first | refine blk_drewN ?_ _ | refine blk_drew ?_ | refine blk_alloc ?_ _)); refine blk_far ?_ NB172_181.out _; (with_reducible repeat (first | refine blk_drewN ?_ _ | refine blk_drew ?_ | refine blk_alloc ?_ _)); refine blk_far ?_ NB172_181.out _; (with_reducible repeat (first | refine blk_drewN ?_ _ | refine blk_drew ?_ | refine blk_alloc ?_ _)); exact BK172.out) hb); have n9_ := Aside0.mk (blk_below (g := gb181) (o := .cells #[.int .u8 t173, .int .u8 t174, .int .u8 t175, .int .u16 t176] 25 (0, 0)) (by (with_reducible repeat (first | refine blk_drewN ?_ _ | refine blk_drew ?_ | refine blk_alloc ?_ _)); refine blk_put (cs := #[.int .u8 t173, .int .u8 t174, .int .u8 t175, .int .u16 0]) ?_ 3 _ rfl; (with_reducible repeat (first | refine blk_drewN ?_ _ | refine blk_drew ?_ | refine blk_alloc ?_ _)); refine blk_put (cs := #[.int .u8 t173, .int .u8 t174, .int .u8 0, .int .u16 0]) ?_ 2 _ rfl; (with_reducible repeat (first | refine blk_drewN ?_ _ | refine blk_drew ?_ | refine blk_alloc ?_ _)); refine blk_put (cs := #[.int .u8 t173, .int .u8 0, .int .u8 0, .int .u16 0]) ?_ 1 _ rfl; (with_reducible repeat (first | refine blk_drewN ?_ _ | refine blk_drew ?_ | refine blk_alloc ?_ _)); refine blk_put (cs := #[.int .u8 0, .int .u8 0, .int .u8 0, .int .u16 0]) ?_ 0 _ rfl; (with_reducible repeat (first | refine blk_drewN ?_ _ | refine blk_drew ?_ | refine blk_alloc ?_ _)); exact BK181.out) hb); have n10_ := Aside0.mk (below_step (by repeat (first | (with_reducible first | exact HB.out | apply below_alloc | apply pw_below_drewN | apply below_drew1 | refine below_set ?_ GE147.out | refine below_set ?_ GE172.out | refine below_set ?_ GE181.out) | exact HB.out)) hb); clear HO138; clear HO145; clear HO150; clear HO154; clear HO158; clear HO170; clear HO179; clear BK147; clear BK172; clear BK181; clear HB; have HO138 := n0_; have HO145 := n1_; have HO150 := n2_; have HO154 := n3_; have HO158 := n4_; have HO170 := n5_; have HO179 := n6_; have BK147 := n7_; have BK172 := n8_; have BK181 := n9_; have HB := n10_; clear n0_ n1_ n2_ n3_ n4_ n5_ n6_ n7_ n8_ n9_ n10_; (try clear hb); (try clear hb2); (try clear hk); (try clear hi)) | ((with_reducible refine gate_dst (N := 20) rfl ?_); refine box_event ?hg (N := 20) ?hd (cs := #[.int .u16 0, .slice none 0 0]) (t := 50) ?hr ?_; (case hd => rfl); (case hg => rfl); (case hr => first | (go_simp; done) | (go_simp; rfl)); intro gb185 hg w154 hbox hb; have n0_ := Aside0.mk (Kd.R_below (by (with_reducible repeat (first | apply Kd.R_alloc | apply Kd.R_drewN | apply Kd.R_drew)); exact HO138.out) hb); have n1_ := Aside0.mk (Kd.R_below (by (with_reducible repeat (first | apply Kd.R_alloc | apply Kd.R_drewN | apply Kd.R_drew)); exact HO145.out) hb); have n2_ := Aside0.mk (Kd.R_below (by (with_reducible repeat (first | apply Kd.R_alloc | apply Kd.R_drewN | apply Kd.R_drew)); exact HO150.out) hb); have n3_ := Aside0.mk (Kd.R_below (by (with_reducible repeat (first | apply Kd.R_alloc | apply Kd.R_drewN | apply Kd.R_drew)); exact HO154.out) hb); have n4_ := Aside0.mk (Kd.R_below (by (with_reducible repeat (first | apply Kd.R_alloc | apply Kd.R_drewN | apply Kd.R_drew)); exact HO158.out) hb); have n5_ := Aside0.mk (Kd.R_below (by (with_reducible repeat (first | apply Kd.R_alloc | apply Kd.R_drewN | apply Kd.R_drew)); exact HO170.out) hb); have n6_ := Aside0.mk (Kd.R_below (by (with_reducible repeat (first | apply Kd.R_alloc | apply Kd.R_drewN | apply Kd.R_drew)); exact HO179.out) hb); have n7_ := Aside0.mk (blk_below (g := gb147) (o := .cells #[.int .u8 t139, .int .u8 t140, .int .u8 t141, .int .u16 t142] 25 (0, 0)) (by (with_reducible repeat (first | refine blk_drewN ?_ _ | refine blk_drew ?_ | refine blk_alloc ?_ _)); exact BK147.out) hb); have n8_ := Aside0.mk (blk_below (g := gb172) (o := .cells #[.int .u8 t164, .int .u8 t165, .int .u8 t166, .int .u16 t167] 25 (0, 0)) (by (with_reducible repeat (first | refine blk_drewN ?_ _ | refine blk_drew ?_ | refine blk_alloc ?_ _)); exact BK172.out) hb); have n9_ := Aside0.mk (blk_below (g := gb181) (o := .cells #[.int .u8 t173, .int .u8 t174, .int .u8 t175, .int .u16 t176] 25 (0, 0)) (by (with_reducible repeat (first | refine blk_drewN ?_ _ | refine blk_drew ?_ | refine blk_alloc ?_ _)); exact BK181.out) hb); have n10_ := Aside0.mk (below_step (by repeat (first | (with_reducible first | exact HB.out | apply below_alloc | apply pw_below_drewN | apply below_drew1 | refine below_set ?_ GE147.out | refine below_set ?_ GE172.out | refine below_set ?_ GE181.out) | exact HB.out)) hb); have n11_ := Aside0.mk ((by rw [hg]; exact Nat.ne_of_lt (blk_lt (g := gb147) (o := .cells #[.int .u8 t139, .int .u8 t140, .int .u8 t141, .int .u16 t142] 25 (0, 0)) (by (with_reducible repeat (first | refine blk_drewN ?_ _ | refine blk_drew ?_ | refine blk_alloc ?_ _)); exact BK147.out)) : gb147 ≠ gb185)); have n12_ := Aside0.mk ((by rw [hg]; exact Nat.ne_of_gt (blk_lt (g := gb147) (o := .cells #[.int .u8 t139, .int .u8 t140, .int .u8 t141, .int .u16 t142] 25 (0, 0)) (by (with_reducible repeat (first | refine blk_drewN ?_ _ | refine blk_drew ?_ | refine blk_alloc ?_ _)); exact BK147.out)) : gb185 ≠ gb147)); have n13_ := Aside0.mk ((by rw [hg]; exact Nat.ne_of_lt (blk_lt (g := gb172) (o := .cells #[.int .u8 t164, .int .u8 t165, .int .u8 t166, .int .u16 t167] 25 (0, 0)) (by (with_reducible repeat (first | refine blk_drewN ?_ _ | refine blk_drew ?_ | refine blk_alloc ?_ _)); exact BK172.out)) : gb172 ≠ gb185)); have n14_ := Aside0.mk ((by rw [hg]; exact Nat.ne_of_gt (blk_lt (g := gb172) (o := .cells #[.int .u8 t164, .int .u8 t165, .int .u8 t166, .int .u16 t167] 25 (0, 0)) (by (with_reducible repeat (first | refine blk_drewN ?_ _ | refine blk_drew ?_ | refine blk_alloc ?_ _)); exact BK172.out)) : gb185 ≠ gb172)); have n15_ := Aside0.mk ((by rw [hg]; exact Nat.ne_of_lt (blk_lt (g := gb181) (o := .cells #[.int .u8 t173, .int .u8 t174, .int .u8 t175, .int .u16 t176] 25 (0, 0)) (by (with_reducible repeat (first | refine blk_drewN ?_ _ | refine blk_drew ?_ | refine blk_alloc ?_ _)); exact BK181.out)) : gb181 ≠ gb185)); have n16_ := Aside0.mk ((by rw [hg]; exact Nat.ne_of_gt (blk_lt (g := gb181) (o := .cells #[.int .u8 t173, .int .u8 t174, .int .u8 t175, .int .u16 t176] 25 (0, 0)) (by (with_reducible repeat (first | refine blk_drewN ?_ _ | refine blk_drew ?_ | refine blk_alloc ?_ _)); exact BK181.out)) : gb185 ≠ gb181)); have n17_ := Aside0.mk ((IsS50.made hbox (by rw [hg]; exact (below_size (by repeat (first | (with_reducible first | exact HB.out | apply below_alloc | apply pw_below_drewN | apply below_drew1 | refine below_set ?_ GE147.out | refine below_set ?_ GE172.out | refine below_set ?_ GE181.out) | exact HB.out))) : w.heap.size ≤ gb185) : IsS50 w _ gb185 0 ([] : List Int))); clear HO138; clear HO145; clear HO150; clear HO154; clear HO158; clear HO170; clear HO179; clear BK147; clear BK172; clear BK181; clear HB; have HO138 := n0_; have HO145 := n1_; have HO150 := n2_; have HO154 := n3_; have HO158 := n4_; have HO170 := n5_; have HO179 := n6_; have BK147 := n7_; have BK172 := n8_; have BK181 := n9_; have HB := n10_; have NB147_185 := n11_; have NB185_147 := n12_; have NB172_185 := n13_; have NB185_172 := n14_; have NB181_185 := n15_; have NB185_181 := n16_; have HI185 := n17_; clear n0_ n1_ n2_ n3_ n4_ n5_ n6_ n7_ n8_ n9_ n10_ n11_ n12_ n13_ n14_ n15_ n16_ n17_; clear hb hbox hg) | ((with_reducible refine gate_callee (f := 19) rfl ?_); refine goesL_ (some 65) rfl rfl Try.func19 (by kernel_rfl) rfl #[.pointer (some ⟨gb185, 0, none⟩)] rfl (by (try simp only [List.map_toArray, List.map_cons, List.map_nil]); first | done | rfl | (simp only [List.length_drop, List.length_take]; rfl)) ?_; (with_reducible refine (header_Counter_Next.calls gb185 0 ([] : List Int) t186 t187 t188 w _ ?side1 ?side2 A9.out).mono ?_); (case side1 => repeat (first | (with_reducible first | exact HI185.out | apply IsS50.alloc | apply IsS50.drewN | apply IsS50.drew | apply IsS50.set_0 | apply IsS50.set_1 | refine IsS50.far ?_ NB185_147.out (by (with_reducible repeat (first | apply typed_set | apply typed_alloc | apply typed_drewN | apply typed_drew)); exact typed_of BK147.out (by decide)) _ | refine IsS50.far ?_ NB185_172.out (by (with_reducible repeat (first | apply typed_set | apply typed_alloc | apply typed_drewN | apply typed_drew)); exact typed_of BK172.out (by decide)) _ | refine IsS50.far ?_ NB185_181.out (by (with_reducible repeat (first | apply typed_set | apply typed_alloc | apply typed_drewN | apply typed_drew)); exact typed_of BK181.out (by decide)) _) | exact HI185.out)); (case side2 => repeat (first | (with_reducible first | exact HB.out | apply below_alloc | apply pw_below_drewN | apply below_drew1 | refine below_set ?_ (IsS50.ge HI185.out) | refine below_set ?_ GE147.out | refine below_set ?_ GE172.out | refine below_set ?_ GE181.out) | exact HB.out)); rintro e w155 ⟨rfl, hi, hb, hk⟩; refine ⟨_, rfl, ?_⟩; have n0_ := Aside0.mk (Kd.R_mono (Kd.R_keepT (IsS50.apart (show IsS50 w _ gb185 0 ([] : List Int) from by repeat (first | (with_reducible first | exact HI185.out | apply IsS50.alloc | apply IsS50.drewN | apply IsS50.drew | apply IsS50.set_0 | apply IsS50.set_1 | refine IsS50.far ?_ NB185_147.out (by (with_reducible repeat (first | apply typed_set | apply typed_alloc | apply typed_drewN | apply typed_drew)); exact typed_of BK147.out (by decide)) _ | refine IsS50.far ?_ NB185_172.out (by (with_reducible repeat (first | apply typed_set | apply typed_alloc | apply typed_drewN | apply typed_drew)); exact typed_of BK172.out (by decide)) _ | refine IsS50.far ?_ NB185_181.out (by (with_reducible repeat (first | apply typed_set | apply typed_alloc | apply typed_drewN | apply typed_drew)); exact typed_of BK181.out (by decide)) _) | exact HI185.out)) (by (with_reducible repeat (first | apply Kd.R_alloc | apply Kd.R_drewN | apply Kd.R_drew)); exact HO138.out) (by decide)) hk (fun _ h => h.2) (by decide)) (fun _ h => h.1)); have n1_ := Aside0.mk (Kd.R_mono (Kd.R_keepT (IsS50.apart (show IsS50 w _ gb185 0 ([] : List Int) from by repeat (first | (with_reducible first | exact HI185.out | apply IsS50.alloc | apply IsS50.drewN | apply IsS50.drew | apply IsS50.set_0 | apply IsS50.set_1 | refine IsS50.far ?_ NB185_147.out (by (with_reducible repeat (first | apply typed_set | apply typed_alloc | apply typed_drewN | apply typed_drew)); exact typed_of BK147.out (by decide)) _ | refine IsS50.far ?_ NB185_172.out (by (with_reducible repeat (first | apply typed_set | apply typed_alloc | apply typed_drewN | apply typed_drew)); exact typed_of BK172.out (by decide)) _ | refine IsS50.far ?_ NB185_181.out (by (with_reducible repeat (first | apply typed_set | apply typed_alloc | apply typed_drewN | apply typed_drew)); exact typed_of BK181.out (by decide)) _) | exact HI185.out)) (by (with_reducible repeat (first | apply Kd.R_alloc | apply Kd.R_drewN | apply Kd.R_drew)); exact HO145.out) (by decide)) hk (fun _ h => h.2) (by decide)) (fun _ h => h.1)); have n2_ := Aside0.mk (KeepT.blk hk (g' := gb147) (o := .cells #[.int .u8 t139, .int .u8 t140, .int .u8 t141, .int .u16 t142] 25 (0, 0)) (by (with_reducible repeat (first | refine blk_drewN ?_ _ | refine blk_drew ?_ | refine blk_alloc ?_ _)); exact BK147.out) NB147_185.out (by simp)); have n3_ := Aside0.mk (Kd.R_mono (Kd.R_keepT (IsS50.apart (show IsS50 w _ gb185 0 ([] : List Int) from by repeat (first | (with_reducible first | exact HI185.out | apply IsS50.alloc | apply IsS50.drewN | apply IsS50.drew | apply IsS50.set_0 | apply IsS50.set_1 | refine IsS50.far ?_ NB185_147.out (by (with_reducible repeat (first | apply typed_set | apply typed_alloc | apply typed_drewN | apply typed_drew)); exact typed_of BK147.out (by decide)) _ | refine IsS50.far ?_ NB185_172.out (by (with_reducible repeat (first | apply typed_set | apply typed_alloc | apply typed_drewN | apply typed_drew)); exact typed_of BK172.out (by decide)) _ | refine IsS50.far ?_ NB185_181.out (by (with_reducible repeat (first | apply typed_set | apply typed_alloc | apply typed_drewN | apply typed_drew)); exact typed_of BK181.out (by decide)) _) | exact HI185.out)) (by (with_reducible repeat (first | apply Kd.R_alloc | apply Kd.R_drewN | apply Kd.R_drew)); exact HO150.out) (by decide)) hk (fun _ h => h.2) (by decide)) (fun _ h => h.1)); have n4_ := Aside0.mk (Kd.R_mono (Kd.R_keepT (IsS50.apart (show IsS50 w _ gb185 0 ([] : List Int) from by repeat (first | (with_reducible first | exact HI185.out | apply IsS50.alloc | apply IsS50.drewN | apply IsS50.drew | apply IsS50.set_0 | apply IsS50.set_1 | refine IsS50.far ?_ NB185_147.out (by (with_reducible repeat (first | apply typed_set | apply typed_alloc | apply typed_drewN | apply typed_drew)); exact typed_of BK147.out (by decide)) _ | refine IsS50.far ?_ NB185_172.out (by (with_reducible repeat (first | apply typed_set | apply typed_alloc | apply typed_drewN | apply typed_drew)); exact typed_of BK172.out (by decide)) _ | refine IsS50.far ?_ NB185_181.out (by (with_reducible repeat (first | apply typed_set | apply typed_alloc | apply typed_drewN | apply typed_drew)); exact typed_of BK181.out (by decide)) _) | exact HI185.out)) (by (with_reducible repeat (first | apply Kd.R_alloc | apply Kd.R_drewN | apply Kd.R_drew)); exact HO154.out) (by decide)) hk (fun _ h => h.2) (by decide)) (fun _ h => h.1)); have n5_ := Aside0.mk (Kd.R_mono (Kd.R_keepT (IsS50.apart (show IsS50 w _ gb185 0 ([] : List Int) from by repeat (first | (with_reducible first | exact HI185.out | apply IsS50.alloc | apply IsS50.drewN | apply IsS50.drew | apply IsS50.set_0 | apply IsS50.set_1 | refine IsS50.far ?_ NB185_147.out (by (with_reducible repeat (first | apply typed_set | apply typed_alloc | apply typed_drewN | apply typed_drew)); exact typed_of BK147.out (by decide)) _ | refine IsS50.far ?_ NB185_172.out (by (with_reducible repeat (first | apply typed_set | apply typed_alloc | apply typed_drewN | apply typed_drew)); exact typed_of BK172.out (by decide)) _ | refine IsS50.far ?_ NB185_181.out (by (with_reducible repeat (first | apply typed_set | apply typed_alloc | apply typed_drewN | apply typed_drew)); exact typed_of BK181.out (by decide)) _) | exact HI185.out)) (by (with_reducible repeat (first | apply Kd.R_alloc | apply Kd.R_drewN | apply Kd.R_drew)); exact HO158.out) (by decide)) hk (fun _ h => h.2) (by decide)) (fun _ h => h.1)); have n6_ := Aside0.mk (Kd.R_mono (Kd.R_keepT (IsS50.apart (show IsS50 w _ gb185 0 ([] : List Int) from by repeat (first | (with_reducible first | exact HI185.out | apply IsS50.alloc | apply IsS50.drewN | apply IsS50.drew | apply IsS50.set_0 | apply IsS50.set_1 | refine IsS50.far ?_ NB185_147.out (by (with_reducible repeat (first | apply typed_set | apply typed_alloc | apply typed_drewN | apply typed_drew)); exact typed_of BK147.out (by decide)) _ | refine IsS50.far ?_ NB185_172.out (by (with_reducible repeat (first | apply typed_set | apply typed_alloc | apply typed_drewN | apply typed_drew)); exact typed_of BK172.out (by decide)) _ | refine IsS50.far ?_ NB185_181.out (by (with_reducible repeat (first | apply typed_set | apply typed_alloc | apply typed_drewN | apply typed_drew)); exact typed_of BK181.out (by decide)) _) | exact HI185.out)) (by (with_reducible repeat (first | apply Kd.R_alloc | apply Kd.R_drewN | apply Kd.R_drew)); exact HO170.out) (by decide)) hk (fun _ h => h.2) (by decide)) (fun _ h => h.1)); have n7_ := Aside0.mk (KeepT.blk hk (g' := gb172) (o := .cells #[.int .u8 t164, .int .u8 t165, .int .u8 t166, .int .u16 t167] 25 (0, 0)) (by (with_reducible repeat (first | refine blk_drewN ?_ _ | refine blk_drew ?_ | refine blk_alloc ?_ _)); exact BK172.out) NB172_185.out (by simp)); have n8_ := Aside0.mk (Kd.R_mono (Kd.R_keepT (IsS50.apart (show IsS50 w _ gb185 0 ([] : List Int) from by repeat (first | (with_reducible first | exact HI185.out | apply IsS50.alloc | apply IsS50.drewN | apply IsS50.drew | apply IsS50.set_0 | apply IsS50.set_1 | refine IsS50.far ?_ NB185_147.out (by (with_reducible repeat (first | apply typed_set | apply typed_alloc | apply typed_drewN | apply typed_drew)); exact typed_of BK147.out (by decide)) _ | refine IsS50.far ?_ NB185_172.out (by (with_reducible repeat (first | apply typed_set | apply typed_alloc | apply typed_drewN | apply typed_drew)); exact typed_of BK172.out (by decide)) _ | refine IsS50.far ?_ NB185_181.out (by (with_reducible repeat (first | apply typed_set | apply typed_alloc | apply typed_drewN | apply typed_drew)); exact typed_of BK181.out (by decide)) _) | exact HI185.out)) (by (with_reducible repeat (first | apply Kd.R_alloc | apply Kd.R_drewN | apply Kd.R_drew)); exact HO179.out) (by decide)) hk (fun _ h => h.2) (by decide)) (fun _ h => h.1)); have n9_ := Aside0.mk (KeepT.blk hk (g' := gb181) (o := .cells #[.int .u8 t173, .int .u8 t174, .int .u8 t175, .int .u16 t176] 25 (0, 0)) (by (with_reducible repeat (first | refine blk_drewN ?_ _ | refine blk_drew ?_ | refine blk_alloc ?_ _)); exact BK181.out) NB181_185.out (by simp)); have n10_ := Aside0.mk (hb); have n11_ := Aside0.mk (hi); clear HO138; clear HO145; clear BK147; clear HO150; clear HO154; clear HO158; clear HO170; clear BK172; clear HO179; clear BK181; clear HB; clear HI185; have HO138 := n0_; have HO145 := n1_; have BK147 := n2_; have HO150 := n3_; have HO154 := n4_; have HO158 := n5_; have HO170 := n6_; have BK172 := n7_; have HO179 := n8_; have BK181 := n9_; have HB := n10_; have HI185 := n11_; clear n0_ n1_ n2_ n3_ n4_ n5_ n6_ n7_ n8_ n9_ n10_ n11_; (try clear hb); (try clear hb2); (try clear hk); (try clear hi)) | ((with_reducible refine gate_callee (f := 19) rfl ?_); refine goesL_ (some 66) rfl rfl Try.func19 (by kernel_rfl) rfl #[.pointer (some ⟨gb185, 0, none⟩)] rfl (by (try simp only [List.map_toArray, List.map_cons, List.map_nil]); first | done | rfl | (simp only [List.length_drop, List.length_take]; rfl)) ?_; (with_reducible refine (header_Counter_Next.calls gb185 t187 t188 t189 t190 t191 w _ ?side1 ?side2 A10.out).mono ?_); (case side1 => repeat (first | (with_reducible first | exact HI185.out | apply IsS50.alloc | apply IsS50.drewN | apply IsS50.drew | apply IsS50.set_0 | apply IsS50.set_1 | refine IsS50.far ?_ NB185_147.out (by (with_reducible repeat (first | apply typed_set | apply typed_alloc | apply typed_drewN | apply typed_drew)); exact typed_of BK147.out (by decide)) _ | refine IsS50.far ?_ NB185_172.out (by (with_reducible repeat (first | apply typed_set | apply typed_alloc | apply typed_drewN | apply typed_drew)); exact typed_of BK172.out (by decide)) _ | refine IsS50.far ?_ NB185_181.out (by (with_reducible repeat (first | apply typed_set | apply typed_alloc | apply typed_drewN | apply typed_drew)); exact typed_of BK181.out (by decide)) _) | exact HI185.out)); (case side2 => repeat (first | (with_reducible first | exact HB.out | apply below_alloc | apply pw_below_drewN | apply below_drew1 | refine below_set ?_ (IsS50.ge HI185.out) | refine below_set ?_ GE147.out | refine below_set ?_ GE172.out | refine below_set ?_ GE181.out) | exact HB.out)); rintro e w156 ⟨rfl, hi, hb, hk⟩; refine ⟨_, rfl, ?_⟩; have n0_ := Aside0.mk (Kd.R_mono (Kd.R_keepT (IsS50.apart (show IsS50 w _ gb185 t187 t188 from by repeat (first | (with_reducible first | exact HI185.out | apply IsS50.alloc | apply IsS50.drewN | apply IsS50.drew | apply IsS50.set_0 | apply IsS50.set_1 | refine IsS50.far ?_ NB185_147.out (by (with_reducible repeat (first | apply typed_set | apply typed_alloc | apply typed_drewN | apply typed_drew)); exact typed_of BK147.out (by decide)) _ | refine IsS50.far ?_ NB185_172.out (by (with_reducible repeat (first | apply typed_set | apply typed_alloc | apply typed_drewN | apply typed_drew)); exact typed_of BK172.out (by decide)) _ | refine IsS50.far ?_ NB185_181.out (by (with_reducible repeat (first | apply typed_set | apply typed_alloc | apply typed_drewN | apply typed_drew)); exact typed_of BK181.out (by decide)) _) | exact HI185.out)) (by (with_reducible repeat (first | apply Kd.R_alloc | apply Kd.R_drewN | apply Kd.R_drew)); exact HO138.out) (by decide)) hk (fun _ h => h.2) (by decide)) (fun _ h => h.1)); have n1_ := Aside0.mk (Kd.R_mono (Kd.R_keepT (IsS50.apart (show IsS50 w _ gb185 t187 t188 from by repeat (first | (with_reducible first | exact HI185.out | apply IsS50.alloc | apply IsS50.drewN | apply IsS50.drew | apply IsS50.set_0 | apply IsS50.set_1 | refine IsS50.far ?_ NB185_147.out (by (with_reducible repeat (first | apply typed_set | apply typed_alloc | apply typed_drewN | apply typed_drew)); exact typed_of BK147.out (by decide)) _ | refine IsS50.far ?_ NB185_172.out (by (with_reducible repeat (first | apply typed_set | apply typed_alloc | apply typed_drewN | apply typed_drew)); exact typed_of BK172.out (by decide)) _ | refine IsS50.far ?_ NB185_181.out (by (with_reducible repeat (first | apply typed_set | apply typed_alloc | apply typed_drewN | apply typed_drew)); exact typed_of BK181.out (by decide)) _) | exact HI185.out)) (by (with_reducible repeat (first | apply Kd.R_alloc | apply Kd.R_drewN | apply Kd.R_drew)); exact HO145.out) (by decide)) hk (fun _ h => h.2) (by decide)) (fun _ h => h.1)); have n2_ := Aside0.mk (KeepT.blk hk (g' := gb147) (o := .cells #[.int .u8 t139, .int .u8 t140, .int .u8 t141, .int .u16 t142] 25 (0, 0)) (by (with_reducible repeat (first | refine blk_drewN ?_ _ | refine blk_drew ?_ | refine blk_alloc ?_ _)); exact BK147.out) NB147_185.out (by simp)); have n3_ := Aside0.mk (Kd.R_mono (Kd.R_keepT (IsS50.apart (show IsS50 w _ gb185 t187 t188 from by repeat (first | (with_reducible first | exact HI185.out | apply IsS50.alloc | apply IsS50.drewN | apply IsS50.drew | apply IsS50.set_0 | apply IsS50.set_1 | refine IsS50.far ?_ NB185_147.out (by (with_reducible repeat (first | apply typed_set | apply typed_alloc | apply typed_drewN | apply typed_drew)); exact typed_of BK147.out (by decide)) _ | refine IsS50.far ?_ NB185_172.out (by (with_reducible repeat (first | apply typed_set | apply typed_alloc | apply typed_drewN | apply typed_drew)); exact typed_of BK172.out (by decide)) _ | refine IsS50.far ?_ NB185_181.out (by (with_reducible repeat (first | apply typed_set | apply typed_alloc | apply typed_drewN | apply typed_drew)); exact typed_of BK181.out (by decide)) _) | exact HI185.out)) (by (with_reducible repeat (first | apply Kd.R_alloc | apply Kd.R_drewN | apply Kd.R_drew)); exact HO150.out) (by decide)) hk (fun _ h => h.2) (by decide)) (fun _ h => h.1)); have n4_ := Aside0.mk (Kd.R_mono (Kd.R_keepT (IsS50.apart (show IsS50 w _ gb185 t187 t188 from by repeat (first | (with_reducible first | exact HI185.out | apply IsS50.alloc | apply IsS50.drewN | apply IsS50.drew | apply IsS50.set_0 | apply IsS50.set_1 | refine IsS50.far ?_ NB185_147.out (by (with_reducible repeat (first | apply typed_set | apply typed_alloc | apply typed_drewN | apply typed_drew)); exact typed_of BK147.out (by decide)) _ | refine IsS50.far ?_ NB185_172.out (by (with_reducible repeat (first | apply typed_set | apply typed_alloc | apply typed_drewN | apply typed_drew)); exact typed_of BK172.out (by decide)) _ | refine IsS50.far ?_ NB185_181.out (by (with_reducible repeat (first | apply typed_set | apply typed_alloc | apply typed_drewN | apply typed_drew)); exact typed_of BK181.out (by decide)) _) | exact HI185.out)) (by (with_reducible repeat (first | apply Kd.R_alloc | apply Kd.R_drewN | apply Kd.R_drew)); exact HO154.out) (by decide)) hk (fun _ h => h.2) (by decide)) (fun _ h => h.1)); have n5_ := Aside0.mk (Kd.R_mono (Kd.R_keepT (IsS50.apart (show IsS50 w _ gb185 t187 t188 from by repeat (first | (with_reducible first | exact HI185.out | apply IsS50.alloc | apply IsS50.drewN | apply IsS50.drew | apply IsS50.set_0 | apply IsS50.set_1 | refine IsS50.far ?_ NB185_147.out (by (with_reducible repeat (first | apply typed_set | apply typed_alloc | apply typed_drewN | apply typed_drew)); exact typed_of BK147.out (by decide)) _ | refine IsS50.far ?_ NB185_172.out (by (with_reducible repeat (first | apply typed_set | apply typed_alloc | apply typed_drewN | apply typed_drew)); exact typed_of BK172.out (by decide)) _ | refine IsS50.far ?_ NB185_181.out (by (with_reducible repeat (first | apply typed_set | apply typed_alloc | apply typed_drewN | apply typed_drew)); exact typed_of BK181.out (by decide)) _) | exact HI185.out)) (by (with_reducible repeat (first | apply Kd.R_alloc | apply Kd.R_drewN | apply Kd.R_drew)); exact HO158.out) (by decide)) hk (fun _ h => h.2) (by decide)) (fun _ h => h.1)); have n6_ := Aside0.mk (Kd.R_mono (Kd.R_keepT (IsS50.apart (show IsS50 w _ gb185 t187 t188 from by repeat (first | (with_reducible first | exact HI185.out | apply IsS50.alloc | apply IsS50.drewN | apply IsS50.drew | apply IsS50.set_0 | apply IsS50.set_1 | refine IsS50.far ?_ NB185_147.out (by (with_reducible repeat (first | apply typed_set | apply typed_alloc | apply typed_drewN | apply typed_drew)); exact typed_of BK147.out (by decide)) _ | refine IsS50.far ?_ NB185_172.out (by (with_reducible repeat (first | apply typed_set | apply typed_alloc | apply typed_drewN | apply typed_drew)); exact typed_of BK172.out (by decide)) _ | refine IsS50.far ?_ NB185_181.out (by (with_reducible repeat (first | apply typed_set | apply typed_alloc | apply typed_drewN | apply typed_drew)); exact typed_of BK181.out (by decide)) _) | exact HI185.out)) (by (with_reducible repeat (first | apply Kd.R_alloc | apply Kd.R_drewN | apply Kd.R_drew)); exact HO170.out) (by decide)) hk (fun _ h => h.2) (by decide)) (fun _ h => h.1)); have n7_ := Aside0.mk (KeepT.blk hk (g' := gb172) (o := .cells #[.int .u8 t164, .int .u8 t165, .int .u8 t166, .int .u16 t167] 25 (0, 0)) (by (with_reducible repeat (first | refine blk_drewN ?_ _ | refine blk_drew ?_ | refine blk_alloc ?_ _)); exact BK172.out) NB172_185.out (by simp)); have n8_ := Aside0.mk (Kd.R_mono (Kd.R_keepT (IsS50.apart (show IsS50 w _ gb185 t187 t188 from by repeat (first | (with_reducible first | exact HI185.out | apply IsS50.alloc | apply IsS50.drewN | apply IsS50.drew | apply IsS50.set_0 | apply IsS50.set_1 | refine IsS50.far ?_ NB185_147.out (by (with_reducible repeat (first | apply typed_set | apply typed_alloc | apply typed_drewN | apply typed_drew)); exact typed_of BK147.out (by decide)) _ | refine IsS50.far ?_ NB185_172.out (by (with_reducible repeat (first | apply typed_set | apply typed_alloc | apply typed_drewN | apply typed_drew)); exact typed_of BK172.out (by decide)) _ | refine IsS50.far ?_ NB185_181.out (by (with_reducible repeat (first | apply typed_set | apply typed_alloc | apply typed_drewN | apply typed_drew)); exact typed_of BK181.out (by decide)) _) | exact HI185.out)) (by (with_reducible repeat (first | apply Kd.R_alloc | apply Kd.R_drewN | apply Kd.R_drew)); exact HO179.out) (by decide)) hk (fun _ h => h.2) (by decide)) (fun _ h => h.1)); have n9_ := Aside0.mk (KeepT.blk hk (g' := gb181) (o := .cells #[.int .u8 t173, .int .u8 t174, .int .u8 t175, .int .u16 t176] 25 (0, 0)) (by (with_reducible repeat (first | refine blk_drewN ?_ _ | refine blk_drew ?_ | refine blk_alloc ?_ _)); exact BK181.out) NB181_185.out (by simp)); have n10_ := Aside0.mk (hb); have n11_ := Aside0.mk (hi); clear HO138; clear HO145; clear BK147; clear HO150; clear HO154; clear HO158; clear HO170; clear BK172; clear HO179; clear BK181; clear HB; clear HI185; have HO138 := n0_; have HO145 := n1_; have BK147 := n2_; have HO150 := n3_; have HO154 := n4_; have HO158 := n5_; have HO170 := n6_; have BK172 := n7_; have HO179 := n8_; have BK181 := n9_; have HB := n10_; have HI185 := n11_; clear n0_ n1_ n2_ n3_ n4_ n5_ n6_ n7_ n8_ n9_ n10_ n11_; (try clear hb); (try clear hb2); (try clear hk); (try clear hi); obtain ⟨Ao157, co157, eo157⟩ := Kd.R_slice HO145.out; subst eo157))
                       have n0_ := Aside0.mk (Kd.R_drew HO138.out)
                       have n1_ := Aside0.mk (Kd.R_drew HO145.out)
                       have n2_ := Aside0.mk (Kd.R_drew HO150.out)
                       have n3_ := Aside0.mk (Kd.R_drew HO154.out)
                       have n4_ := Aside0.mk (Kd.R_drew HO158.out)
                       have n5_ := Aside0.mk (Kd.R_drew HO170.out)
                       have n6_ := Aside0.mk (Kd.R_drew HO179.out)
                       have n7_ := Aside0.mk (blk_drew BK147.out)
                       have n8_ := Aside0.mk (blk_drew BK172.out)
                       have n9_ := Aside0.mk (blk_drew BK181.out)
                       have n10_ := Aside0.mk (IsS50.drew HI185.out)
                       have n11_ := Aside0.mk (below_drew1 HB.out)
                       clear HO138
                       clear HO145
                       clear HO150
                       clear HO154
                       clear HO158
                       clear HO170
                       clear HO179
                       clear BK147
                       clear BK172
                       clear BK181
                       clear HI185
                       clear HB
                       have HO138 := n0_
                       have HO145 := n1_
                       have HO150 := n2_
                       have HO154 := n3_
                       have HO158 := n4_
                       have HO170 := n5_
                       have HO179 := n6_
                       have BK147 := n7_
                       have BK172 := n8_
                       have BK181 := n9_
                       have HI185 := n10_
                       have HB := n11_
                       clear n0_ n1_ n2_ n3_ n4_ n5_ n6_ n7_ n8_ n9_ n10_ n11_
                       have hcv159 := own_string (P := Try.prog) Try.underlying22 Try.underlying5 Try.underlying9 (Kd.own_of_R HO145.out)
                       have hcv160 := own_string (P := Try.prog) Try.underlying22 Try.underlying5 Try.underlying9 (Kd.own_of_R HO150.out)
                       have hcv161 := own_string (P := Try.prog) Try.underlying22 Try.underlying5 Try.underlying9 (Kd.own_of_R HO154.out)
                       refine start_ (n := 96) (S := fun w' => w'.cell? ⟨gb147, 0, none⟩ = some (.int .u8 t139) ∧ w'.cell? ⟨gb147, 1, none⟩ = some (.int .u8 t140) ∧ w'.cell? ⟨gb147, 2, none⟩ = some (.int .u8 t141) ∧ w'.cell? ⟨gb147, 3, none⟩ = some (.int .u16 t142) ∧ (Kd.int .u8).R 5 w' w.heap.size (fun _ => True) _ t143 ∧ (Kd.int .u8).R 5 w' w.heap.size (fun _ => True) _ t148 ∧ (Kd.int .u8).R 5 w' w.heap.size (fun _ => True) _ t152 ∧ (Kd.int .u8).R 5 w' w.heap.size (fun _ => True) _ y136) (ds := []) #[F_,F_,F_,F_,F_,F_,F_,F_,F_,F_,F_,F_,F_,F_,F_,F_,F_,F_,F_,F_,F_,F_,F_,F_,F_,F_,F_,F_,F_,F_,F_,F_,F_,F_,F_,F_,F_,F_,F_,F_,F_,F_,F_,F_,F_,F_,F_,F_,F_,F_,F_,F_,F_,F_,F_,F_,F_,F_,F_,F_,F_,F_,F_,F_,F_,F_,F_,F_,F_,F_,F_,F_,F_,F_,F_,F_,F_,F_,F_,F_,F_,F_,F_,F_,F_,F_,F_,F_,F_,F_,F_,F_,F_,F_,F_,F_] (by kernel_rfl) rfl rfl ⟨(blk_cell BK147.out 0).trans rfl, (blk_cell BK147.out 1).trans rfl, (blk_cell BK147.out 2).trans rfl, (blk_cell BK147.out 3).trans rfl, Kd.R_mono HO145.out (fun _ _ => trivial), Kd.R_mono HO150.out (fun _ _ => trivial), Kd.R_mono HO154.out (fun _ _ => trivial), Kd.R_mono HO138.out (fun _ _ => trivial)⟩ (fun hHeld => ?_); refine with_tabW greenscreenlaw09_alive.tab11 greenscreenlaw09_alive.bits11 (fun HT_ HW_ => ?_)
                       generalize w156.drew = w158 at HO138 HO145 HO150 HO154 HO158 HO170 HO179 BK147 BK172 BK181 HI185 HB hHeld ⊢
                       refine pure_ (i := 0) (N := some 67) (v := ?_) (a' := ?_) #[T_,F_,F_,F_,F_,F_,F_,F_,F_,F_,F_,F_,F_,F_,F_,F_,F_,F_,F_,F_,F_,F_,F_,F_,F_,F_,F_,F_,F_,F_,F_,F_,F_,F_,F_,F_,F_,F_,F_,F_,F_,F_,F_,F_,F_,F_,F_,F_,F_,F_,F_,F_,F_,F_,F_,F_,F_,F_,F_,F_,F_,F_,F_,F_,F_,F_,F_,F_,F_,F_,F_,F_,F_,F_,F_,F_,F_,F_,F_,F_,F_,F_,F_,F_,F_,F_,F_,F_,F_,F_,F_,F_,F_,F_,F_,F_] rfl rfl (any_of HT_.out (by kernel_rfl)) (fun _ _ _ h => h) (Or.inl ⟨by rfl, ?_⟩) ?_ ?_
                       rotate_left
                       ·intro w'
                        go_simp
                        with_reducible rfl
                       rotate_left
                       ·simp only [Act.put, zA_, zB_, zC_, i64_w, i32_w]
                        rfl
                       refine pure_ (i := 1) (N := some 68) (v := ?_) (a' := ?_) #[T_,T_,F_,F_,F_,F_,F_,F_,F_,F_,F_,F_,F_,F_,F_,F_,F_,F_,F_,F_,F_,F_,F_,F_,F_,F_,F_,F_,F_,F_,F_,F_,F_,F_,F_,F_,F_,F_,F_,F_,F_,F_,F_,F_,F_,F_,F_,F_,F_,F_,F_,F_,F_,F_,F_,F_,F_,F_,F_,F_,F_,F_,F_,F_,F_,F_,F_,F_,F_,F_,F_,F_,F_,F_,F_,F_,F_,F_,F_,F_,F_,F_,F_,F_,F_,F_,F_,F_,F_,F_,F_,F_,F_,F_,F_,F_] rfl rfl (any_of HT_.out (by kernel_rfl)) (fun _ _ _ h => h) (Or.inl ⟨by rfl, ?_⟩) ?_ ?_
                       rotate_left
                       ·intro w'
                        go_simp
                        with_reducible rfl
                       rotate_left
                       ·simp only [Act.put, zA_, zB_, zC_, i64_w, i32_w]
                        rfl
                       refine pure_ (i := 2) (N := some 69) (v := ?_) (a' := ?_) #[T_,T_,T_,F_,F_,F_,F_,F_,F_,F_,F_,F_,F_,F_,F_,F_,F_,F_,F_,F_,F_,F_,F_,F_,F_,F_,F_,F_,F_,F_,F_,F_,F_,F_,F_,F_,F_,F_,F_,F_,F_,F_,F_,F_,F_,F_,F_,F_,F_,F_,F_,F_,F_,F_,F_,F_,F_,F_,F_,F_,F_,F_,F_,F_,F_,F_,F_,F_,F_,F_,F_,F_,F_,F_,F_,F_,F_,F_,F_,F_,F_,F_,F_,F_,F_,F_,F_,F_,F_,F_,F_,F_,F_,F_,F_,F_] rfl rfl (any_of HT_.out (by kernel_rfl)) (fun _ _ _ h => h) (Or.inl ⟨by rfl, ?_⟩) ?_ ?_
                       rotate_left
                       ·intro w'
                        go_simp
                        with_reducible rfl
                       rotate_left
                       ·simp only [Act.put, zA_, zB_, zC_, i64_w, i32_w]
                        rfl
                       refine pure_ (i := 3) (N := some 70) (v := ?_) (a' := ?_) #[T_,T_,T_,T_,F_,F_,F_,F_,F_,F_,F_,F_,F_,F_,F_,F_,F_,F_,F_,F_,F_,F_,F_,F_,F_,F_,F_,F_,F_,F_,F_,F_,F_,F_,F_,F_,F_,F_,F_,F_,F_,F_,F_,F_,F_,F_,F_,F_,F_,F_,F_,F_,F_,F_,F_,F_,F_,F_,F_,F_,F_,F_,F_,F_,F_,F_,F_,F_,F_,F_,F_,F_,F_,F_,F_,F_,F_,F_,F_,F_,F_,F_,F_,F_,F_,F_,F_,F_,F_,F_,F_,F_,F_,F_,F_,F_] rfl rfl (any_of HT_.out (by kernel_rfl)) (fun _ _ _ h => h) (Or.inl ⟨by rfl, ?_⟩) ?_ ?_
                       rotate_left
                       ·intro w'
                        go_simp
                        with_reducible rfl
                       rotate_left
                       ·simp only [Act.put, zA_, zB_, zC_, i64_w, i32_w]
                        rfl
                       refine take_ (i := 4) (N := some 71) (v := ?_) (a' := ?_) #[T_,T_,T_,T_,T_,F_,F_,F_,F_,F_,F_,F_,F_,F_,F_,F_,F_,F_,F_,F_,F_,F_,F_,F_,F_,F_,F_,F_,F_,F_,F_,F_,F_,F_,F_,F_,F_,F_,F_,F_,F_,F_,F_,F_,F_,F_,F_,F_,F_,F_,F_,F_,F_,F_,F_,F_,F_,F_,F_,F_,F_,F_,F_,F_,F_,F_,F_,F_,F_,F_,F_,F_,F_,F_,F_,F_,F_,F_,F_,F_,F_,F_,F_,F_,F_,F_,F_,F_,F_,F_,F_,F_,F_,F_,F_,F_] rfl rfl (take_ofW HT_.out HW_.out (by kernel_rfl)) (fun _ _ _ h => h) (Or.inl ⟨by rfl, ?_⟩) hHeld ?_ ?_
                       rotate_left
                       ·rintro w' ⟨s0, s1, s2, s3, s4, s5, s6, s7⟩
                        go_simp
                        with_reducible rfl
                       rotate_left
                       ·simp only [Act.put, zA_, zB_, zC_, i64_w, i32_w]
                        rfl
                       refine pure_ (i := 5) (N := some 72) (v := ?_) (a' := ?_) #[T_,T_,T_,T_,T_,T_,F_,F_,F_,F_,F_,F_,F_,F_,F_,F_,F_,F_,F_,F_,F_,F_,F_,F_,F_,F_,F_,F_,F_,F_,F_,F_,F_,F_,F_,F_,F_,F_,F_,F_,F_,F_,F_,F_,F_,F_,F_,F_,F_,F_,F_,F_,F_,F_,F_,F_,F_,F_,F_,F_,F_,F_,F_,F_,F_,F_,F_,F_,F_,F_,F_,F_,F_,F_,F_,F_,F_,F_,F_,F_,F_,F_,F_,F_,F_,F_,F_,F_,F_,F_,F_,F_,F_,F_,F_,F_] rfl rfl (any_of HT_.out (by kernel_rfl)) (fun _ _ _ h => h) (Or.inl ⟨by rfl, ?_⟩) ?_ ?_
                       rotate_left
                       ·intro w'
                        go_simp
                        with_reducible rfl
                       rotate_left
                       ·simp only [Act.put, zA_, zB_, zC_, i64_w, i32_w]
                        rfl
                       refine pure_ (i := 6) (N := some 73) (v := ?_) (a' := ?_) #[T_,T_,T_,T_,T_,T_,T_,F_,F_,F_,F_,F_,F_,F_,F_,F_,F_,F_,F_,F_,F_,F_,F_,F_,F_,F_,F_,F_,F_,F_,F_,F_,F_,F_,F_,F_,F_,F_,F_,F_,F_,F_,F_,F_,F_,F_,F_,F_,F_,F_,F_,F_,F_,F_,F_,F_,F_,F_,F_,F_,F_,F_,F_,F_,F_,F_,F_,F_,F_,F_,F_,F_,F_,F_,F_,F_,F_,F_,F_,F_,F_,F_,F_,F_,F_,F_,F_,F_,F_,F_,F_,F_,F_,F_,F_,F_] rfl rfl (any_of HT_.out (by kernel_rfl)) (fun _ _ _ h => h) (Or.inl ⟨by rfl, ?_⟩) ?_ ?_
                       rotate_left
                       ·intro w'
                        go_simp
                        with_reducible rfl
                       rotate_left
                       ·simp only [Act.put, zA_, zB_, zC_, i64_w, i32_w]
                        rfl
                       refine pure_ (i := 7) (N := some 74) (v := ?_) (a' := ?_) #[T_,T_,T_,T_,T_,T_,T_,T_,F_,F_,F_,F_,F_,F_,F_,F_,F_,F_,F_,F_,F_,F_,F_,F_,F_,F_,F_,F_,F_,F_,F_,F_,F_,F_,F_,F_,F_,F_,F_,F_,F_,F_,F_,F_,F_,F_,F_,F_,F_,F_,F_,F_,F_,F_,F_,F_,F_,F_,F_,F_,F_,F_,F_,F_,F_,F_,F_,F_,F_,F_,F_,F_,F_,F_,F_,F_,F_,F_,F_,F_,F_,F_,F_,F_,F_,F_,F_,F_,F_,F_,F_,F_,F_,F_,F_,F_] rfl rfl (any_of HT_.out (by kernel_rfl)) (fun _ _ _ h => h) (Or.inl ⟨by rfl, ?_⟩) ?_ ?_
                       rotate_left
                       ·intro w'
                        go_simp
                        with_reducible rfl
                       rotate_left
                       ·simp only [Act.put, zA_, zB_, zC_, i64_w, i32_w]
                        rfl
                       refine pure_ (i := 8) (N := some 75) (v := ?_) (a' := ?_) #[T_,T_,T_,T_,T_,T_,T_,T_,T_,F_,F_,F_,F_,F_,F_,F_,F_,F_,F_,F_,F_,F_,F_,F_,F_,F_,F_,F_,F_,F_,F_,F_,F_,F_,F_,F_,F_,F_,F_,F_,F_,F_,F_,F_,F_,F_,F_,F_,F_,F_,F_,F_,F_,F_,F_,F_,F_,F_,F_,F_,F_,F_,F_,F_,F_,F_,F_,F_,F_,F_,F_,F_,F_,F_,F_,F_,F_,F_,F_,F_,F_,F_,F_,F_,F_,F_,F_,F_,F_,F_,F_,F_,F_,F_,F_,F_] rfl rfl (any_of HT_.out (by kernel_rfl)) (fun _ _ _ h => h) (Or.inl ⟨by rfl, ?_⟩) ?_ ?_
                       rotate_left
                       ·intro w'
                        go_simp
                        with_reducible rfl
                       rotate_left
                       ·simp only [Act.put, zA_, zB_, zC_, i64_w, i32_w]
                        rfl
                       refine take_ (i := 9) (N := some 76) (v := ?_) (a' := ?_) #[T_,T_,T_,T_,T_,T_,T_,T_,T_,T_,F_,F_,F_,F_,F_,F_,F_,F_,F_,F_,F_,F_,F_,F_,F_,F_,F_,F_,F_,F_,F_,F_,F_,F_,F_,F_,F_,F_,F_,F_,F_,F_,F_,F_,F_,F_,F_,F_,F_,F_,F_,F_,F_,F_,F_,F_,F_,F_,F_,F_,F_,F_,F_,F_,F_,F_,F_,F_,F_,F_,F_,F_,F_,F_,F_,F_,F_,F_,F_,F_,F_,F_,F_,F_,F_,F_,F_,F_,F_,F_,F_,F_,F_,F_,F_,F_] rfl rfl (take_ofW HT_.out HW_.out (by kernel_rfl)) (fun _ _ _ h => h) (Or.inl ⟨by rfl, ?_⟩) hHeld ?_ ?_
                       rotate_left
                       ·rintro w' ⟨s0, s1, s2, s3, s4, s5, s6, s7⟩
                        go_simp
                        with_reducible rfl
                       rotate_left
                       ·simp only [Act.put, zA_, zB_, zC_, i64_w, i32_w]
                        rfl
                       refine pure_ (i := 10) (N := some 77) (v := ?_) (a' := ?_) #[T_,T_,T_,T_,T_,T_,T_,T_,T_,T_,T_,F_,F_,F_,F_,F_,F_,F_,F_,F_,F_,F_,F_,F_,F_,F_,F_,F_,F_,F_,F_,F_,F_,F_,F_,F_,F_,F_,F_,F_,F_,F_,F_,F_,F_,F_,F_,F_,F_,F_,F_,F_,F_,F_,F_,F_,F_,F_,F_,F_,F_,F_,F_,F_,F_,F_,F_,F_,F_,F_,F_,F_,F_,F_,F_,F_,F_,F_,F_,F_,F_,F_,F_,F_,F_,F_,F_,F_,F_,F_,F_,F_,F_,F_,F_,F_] rfl rfl (any_of HT_.out (by kernel_rfl)) (fun _ _ _ h => h) (Or.inl ⟨by rfl, ?_⟩) ?_ ?_
                       rotate_left
                       ·intro w'
                        go_simp
                        with_reducible rfl
                       rotate_left
                       ·simp only [Act.put, zA_, zB_, zC_, i64_w, i32_w]
                        rfl
                       refine pure_ (i := 11) (N := some 78) (v := ?_) (a' := ?_) #[T_,T_,T_,T_,T_,T_,T_,T_,T_,T_,T_,T_,F_,F_,F_,F_,F_,F_,F_,F_,F_,F_,F_,F_,F_,F_,F_,F_,F_,F_,F_,F_,F_,F_,F_,F_,F_,F_,F_,F_,F_,F_,F_,F_,F_,F_,F_,F_,F_,F_,F_,F_,F_,F_,F_,F_,F_,F_,F_,F_,F_,F_,F_,F_,F_,F_,F_,F_,F_,F_,F_,F_,F_,F_,F_,F_,F_,F_,F_,F_,F_,F_,F_,F_,F_,F_,F_,F_,F_,F_,F_,F_,F_,F_,F_,F_] rfl rfl (any_of HT_.out (by kernel_rfl)) (fun _ _ _ h => h) (Or.inl ⟨by rfl, ?_⟩) ?_ ?_
                       rotate_left
                       ·intro w'
                        go_simp
                        with_reducible rfl
                       rotate_left
                       ·simp only [Act.put, zA_, zB_, zC_, i64_w, i32_w]
                        rfl
                       refine pure_ (i := 12) (N := some 79) (v := ?_) (a' := ?_) #[T_,T_,T_,T_,T_,T_,T_,T_,T_,T_,T_,T_,T_,F_,F_,F_,F_,F_,F_,F_,F_,F_,F_,F_,F_,F_,F_,F_,F_,F_,F_,F_,F_,F_,F_,F_,F_,F_,F_,F_,F_,F_,F_,F_,F_,F_,F_,F_,F_,F_,F_,F_,F_,F_,F_,F_,F_,F_,F_,F_,F_,F_,F_,F_,F_,F_,F_,F_,F_,F_,F_,F_,F_,F_,F_,F_,F_,F_,F_,F_,F_,F_,F_,F_,F_,F_,F_,F_,F_,F_,F_,F_,F_,F_,F_,F_] rfl rfl (any_of HT_.out (by kernel_rfl)) (fun _ _ _ h => h) (Or.inl ⟨by rfl, ?_⟩) ?_ ?_
                       rotate_left
                       ·intro w'
                        go_simp
                        with_reducible rfl
                       rotate_left
                       ·simp only [Act.put, zA_, zB_, zC_, i64_w, i32_w]
                        rfl
                       refine pure_ (i := 13) (N := some 80) (v := ?_) (a' := ?_) #[T_,T_,T_,T_,T_,T_,T_,T_,T_,T_,T_,T_,T_,T_,F_,F_,F_,F_,F_,F_,F_,F_,F_,F_,F_,F_,F_,F_,F_,F_,F_,F_,F_,F_,F_,F_,F_,F_,F_,F_,F_,F_,F_,F_,F_,F_,F_,F_,F_,F_,F_,F_,F_,F_,F_,F_,F_,F_,F_,F_,F_,F_,F_,F_,F_,F_,F_,F_,F_,F_,F_,F_,F_,F_,F_,F_,F_,F_,F_,F_,F_,F_,F_,F_,F_,F_,F_,F_,F_,F_,F_,F_,F_,F_,F_,F_] rfl rfl (any_of HT_.out (by kernel_rfl)) (fun _ _ _ h => h) (Or.inl ⟨by rfl, ?_⟩) ?_ ?_
                       rotate_left
                       ·intro w'
                        go_simp
                        with_reducible rfl
                       rotate_left
                       ·simp only [Act.put, zA_, zB_, zC_, i64_w, i32_w]
                        rfl
                       refine take_ (i := 14) (N := some 81) (v := ?_) (a' := ?_) #[T_,T_,T_,T_,T_,T_,T_,T_,T_,T_,T_,T_,T_,T_,T_,F_,F_,F_,F_,F_,F_,F_,F_,F_,F_,F_,F_,F_,F_,F_,F_,F_,F_,F_,F_,F_,F_,F_,F_,F_,F_,F_,F_,F_,F_,F_,F_,F_,F_,F_,F_,F_,F_,F_,F_,F_,F_,F_,F_,F_,F_,F_,F_,F_,F_,F_,F_,F_,F_,F_,F_,F_,F_,F_,F_,F_,F_,F_,F_,F_,F_,F_,F_,F_,F_,F_,F_,F_,F_,F_,F_,F_,F_,F_,F_,F_] rfl rfl (take_ofW HT_.out HW_.out (by kernel_rfl)) (fun _ _ _ h => h) (Or.inl ⟨by rfl, ?_⟩) hHeld ?_ ?_
                       rotate_left
                       ·rintro w' ⟨s0, s1, s2, s3, s4, s5, s6, s7⟩
                        go_simp
                        with_reducible rfl
                       rotate_left
                       ·simp only [Act.put, zA_, zB_, zC_, i64_w, i32_w]
                        rfl
                       refine pure_ (i := 15) (N := some 82) (v := ?_) (a' := ?_) #[T_,T_,T_,T_,T_,T_,T_,T_,T_,T_,T_,T_,T_,T_,T_,T_,F_,F_,F_,F_,F_,F_,F_,F_,F_,F_,F_,F_,F_,F_,F_,F_,F_,F_,F_,F_,F_,F_,F_,F_,F_,F_,F_,F_,F_,F_,F_,F_,F_,F_,F_,F_,F_,F_,F_,F_,F_,F_,F_,F_,F_,F_,F_,F_,F_,F_,F_,F_,F_,F_,F_,F_,F_,F_,F_,F_,F_,F_,F_,F_,F_,F_,F_,F_,F_,F_,F_,F_,F_,F_,F_,F_,F_,F_,F_,F_] rfl rfl (any_of HT_.out (by kernel_rfl)) (fun _ _ _ h => h) (Or.inl ⟨by rfl, ?_⟩) ?_ ?_
                       rotate_left
                       ·intro w'
                        go_simp
                        with_reducible rfl
                       rotate_left
                       ·simp only [Act.put, zA_, zB_, zC_, i64_w, i32_w]
                        rfl
                       refine pure_ (i := 16) (N := some 83) (v := ?_) (a' := ?_) #[T_,T_,T_,T_,T_,T_,T_,T_,T_,T_,T_,T_,T_,T_,T_,T_,T_,F_,F_,F_,F_,F_,F_,F_,F_,F_,F_,F_,F_,F_,F_,F_,F_,F_,F_,F_,F_,F_,F_,F_,F_,F_,F_,F_,F_,F_,F_,F_,F_,F_,F_,F_,F_,F_,F_,F_,F_,F_,F_,F_,F_,F_,F_,F_,F_,F_,F_,F_,F_,F_,F_,F_,F_,F_,F_,F_,F_,F_,F_,F_,F_,F_,F_,F_,F_,F_,F_,F_,F_,F_,F_,F_,F_,F_,F_,F_] rfl rfl (any_of HT_.out (by kernel_rfl)) (fun _ _ _ h => h) (Or.inl ⟨by rfl, ?_⟩) ?_ ?_
                       rotate_left
                       ·intro w'
                        go_simp
                        with_reducible rfl
                       rotate_left
                       ·simp only [Act.put, zA_, zB_, zC_, i64_w, i32_w]
                        rfl
                       refine pure_ (i := 17) (N := some 84) (v := ?_) (a' := ?_) #[T_,T_,T_,T_,T_,T_,T_,T_,T_,T_,T_,T_,T_,T_,T_,T_,T_,T_,F_,F_,F_,F_,F_,F_,F_,F_,F_,F_,F_,F_,F_,F_,F_,F_,F_,F_,F_,F_,F_,F_,F_,F_,F_,F_,F_,F_,F_,F_,F_,F_,F_,F_,F_,F_,F_,F_,F_,F_,F_,F_,F_,F_,F_,F_,F_,F_,F_,F_,F_,F_,F_,F_,F_,F_,F_,F_,F_,F_,F_,F_,F_,F_,F_,F_,F_,F_,F_,F_,F_,F_,F_,F_,F_,F_,F_,F_] rfl rfl (any_of HT_.out (by kernel_rfl)) (fun _ _ _ h => h) (Or.inl ⟨by rfl, ?_⟩) ?_ ?_
                       rotate_left
                       ·intro w'
                        go_simp
                        with_reducible rfl
                       rotate_left
                       ·simp only [Act.put, zA_, zB_, zC_, i64_w, i32_w]
                        rfl
                       refine pure_ (i := 18) (N := some 85) (v := ?_) (a' := ?_) #[T_,T_,T_,T_,T_,T_,T_,T_,T_,T_,T_,T_,T_,T_,T_,T_,T_,T_,T_,F_,F_,F_,F_,F_,F_,F_,F_,F_,F_,F_,F_,F_,F_,F_,F_,F_,F_,F_,F_,F_,F_,F_,F_,F_,F_,F_,F_,F_,F_,F_,F_,F_,F_,F_,F_,F_,F_,F_,F_,F_,F_,F_,F_,F_,F_,F_,F_,F_,F_,F_,F_,F_,F_,F_,F_,F_,F_,F_,F_,F_,F_,F_,F_,F_,F_,F_,F_,F_,F_,F_,F_,F_,F_,F_,F_,F_] rfl rfl (any_of HT_.out (by kernel_rfl)) (fun _ _ _ h => h) (Or.inl ⟨by rfl, ?_⟩) ?_ ?_
                       rotate_left
                       ·intro w'
                        go_simp
                        with_reducible rfl
                       rotate_left
                       ·simp only [Act.put, zA_, zB_, zC_, i64_w, i32_w]
                        rfl
                       refine take_ (i := 19) (N := some 86) (v := ?_) (a' := ?_) #[T_,T_,T_,T_,T_,T_,T_,T_,T_,T_,T_,T_,T_,T_,T_,T_,T_,T_,T_,T_,F_,F_,F_,F_,F_,F_,F_,F_,F_,F_,F_,F_,F_,F_,F_,F_,F_,F_,F_,F_,F_,F_,F_,F_,F_,F_,F_,F_,F_,F_,F_,F_,F_,F_,F_,F_,F_,F_,F_,F_,F_,F_,F_,F_,F_,F_,F_,F_,F_,F_,F_,F_,F_,F_,F_,F_,F_,F_,F_,F_,F_,F_,F_,F_,F_,F_,F_,F_,F_,F_,F_,F_,F_,F_,F_,F_] rfl rfl (take_ofW HT_.out HW_.out (by kernel_rfl)) (fun _ _ _ h => h) (Or.inl ⟨by rfl, ?_⟩) hHeld ?_ ?_
                       rotate_left
                       ·rintro w' ⟨s0, s1, s2, s3, s4, s5, s6, s7⟩
                        have hcv := own_string (P := Try.prog) Try.underlying22 Try.underlying5 Try.underlying9 (Kd.own_of_R s4)
                        go_simp
                        first | (with_reducible rfl) | (constructor <;> rfl) | rfl
                       rotate_left
                       ·simp only [Act.put, zA_, zB_, zC_, i64_w, i32_w]
                        rfl
                       refine pure_ (i := 20) (N := some 87) (v := ?_) (a' := ?_) #[T_,T_,T_,T_,T_,T_,T_,T_,T_,T_,T_,T_,T_,T_,T_,T_,T_,T_,T_,T_,T_,F_,F_,F_,F_,F_,F_,F_,F_,F_,F_,F_,F_,F_,F_,F_,F_,F_,F_,F_,F_,F_,F_,F_,F_,F_,F_,F_,F_,F_,F_,F_,F_,F_,F_,F_,F_,F_,F_,F_,F_,F_,F_,F_,F_,F_,F_,F_,F_,F_,F_,F_,F_,F_,F_,F_,F_,F_,F_,F_,F_,F_,F_,F_,F_,F_,F_,F_,F_,F_,F_,F_,F_,F_,F_,F_] rfl rfl (any_of HT_.out (by kernel_rfl)) (fun _ _ _ h => h) (Or.inl ⟨by rfl, ?_⟩) ?_ ?_
                       rotate_left
                       ·intro w'
                        go_simp
                        with_reducible rfl
                       rotate_left
                       ·simp only [Act.put, zA_, zB_, zC_, i64_w, i32_w]
                        rfl
                       refine pure_ (i := 21) (N := some 88) (v := ?_) (a' := ?_) #[T_,T_,T_,T_,T_,T_,T_,T_,T_,T_,T_,T_,T_,T_,T_,T_,T_,T_,T_,T_,T_,T_,F_,F_,F_,F_,F_,F_,F_,F_,F_,F_,F_,F_,F_,F_,F_,F_,F_,F_,F_,F_,F_,F_,F_,F_,F_,F_,F_,F_,F_,F_,F_,F_,F_,F_,F_,F_,F_,F_,F_,F_,F_,F_,F_,F_,F_,F_,F_,F_,F_,F_,F_,F_,F_,F_,F_,F_,F_,F_,F_,F_,F_,F_,F_,F_,F_,F_,F_,F_,F_,F_,F_,F_,F_,F_] rfl rfl (any_of HT_.out (by kernel_rfl)) (fun _ _ _ h => h) (Or.inl ⟨by rfl, ?_⟩) ?_ ?_
                       rotate_left
                       ·intro w'
                        go_simp
                        with_reducible rfl
                       rotate_left
                       ·simp only [Act.put, zA_, zB_, zC_, i64_w, i32_w]
                        rfl
                       refine pure_ (i := 22) (N := some 89) (v := ?_) (a' := ?_) #[T_,T_,T_,T_,T_,T_,T_,T_,T_,T_,T_,T_,T_,T_,T_,T_,T_,T_,T_,T_,T_,T_,T_,F_,F_,F_,F_,F_,F_,F_,F_,F_,F_,F_,F_,F_,F_,F_,F_,F_,F_,F_,F_,F_,F_,F_,F_,F_,F_,F_,F_,F_,F_,F_,F_,F_,F_,F_,F_,F_,F_,F_,F_,F_,F_,F_,F_,F_,F_,F_,F_,F_,F_,F_,F_,F_,F_,F_,F_,F_,F_,F_,F_,F_,F_,F_,F_,F_,F_,F_,F_,F_,F_,F_,F_,F_] rfl rfl (any_of HT_.out (by kernel_rfl)) (fun _ _ _ h => h) (Or.inl ⟨by rfl, ?_⟩) ?_ ?_
                       rotate_left
                       ·intro w'
                        go_simp
                        with_reducible rfl
                       rotate_left
                       ·simp only [Act.put, zA_, zB_, zC_, i64_w, i32_w]
                        rfl
                       refine pure_ (i := 23) (N := some 90) (v := ?_) (a' := ?_) #[T_,T_,T_,T_,T_,T_,T_,T_,T_,T_,T_,T_,T_,T_,T_,T_,T_,T_,T_,T_,T_,T_,T_,T_,F_,F_,F_,F_,F_,F_,F_,F_,F_,F_,F_,F_,F_,F_,F_,F_,F_,F_,F_,F_,F_,F_,F_,F_,F_,F_,F_,F_,F_,F_,F_,F_,F_,F_,F_,F_,F_,F_,F_,F_,F_,F_,F_,F_,F_,F_,F_,F_,F_,F_,F_,F_,F_,F_,F_,F_,F_,F_,F_,F_,F_,F_,F_,F_,F_,F_,F_,F_,F_,F_,F_,F_] rfl rfl (any_of HT_.out (by kernel_rfl)) (fun _ _ _ h => h) (Or.inl ⟨by rfl, ?_⟩) ?_ ?_
                       rotate_left
                       ·intro w'
                        go_simp
                        with_reducible rfl
                       rotate_left
                       ·simp only [Act.put, zA_, zB_, zC_, i64_w, i32_w]
                        rfl
                       refine take_ (i := 24) (N := some 91) (v := ?_) (a' := ?_) #[T_,T_,T_,T_,T_,T_,T_,T_,T_,T_,T_,T_,T_,T_,T_,T_,T_,T_,T_,T_,T_,T_,T_,T_,T_,F_,F_,F_,F_,F_,F_,F_,F_,F_,F_,F_,F_,F_,F_,F_,F_,F_,F_,F_,F_,F_,F_,F_,F_,F_,F_,F_,F_,F_,F_,F_,F_,F_,F_,F_,F_,F_,F_,F_,F_,F_,F_,F_,F_,F_,F_,F_,F_,F_,F_,F_,F_,F_,F_,F_,F_,F_,F_,F_,F_,F_,F_,F_,F_,F_,F_,F_,F_,F_,F_,F_] rfl rfl (take_ofW HT_.out HW_.out (by kernel_rfl)) (fun _ _ _ h => h) (Or.inl ⟨by rfl, ?_⟩) hHeld ?_ ?_
                       rotate_left
                       ·rintro w' ⟨s0, s1, s2, s3, s4, s5, s6, s7⟩
                        have hcv := own_string (P := Try.prog) Try.underlying22 Try.underlying5 Try.underlying9 (Kd.own_of_R s5)
                        go_simp
                        first | (with_reducible rfl) | (constructor <;> rfl) | rfl
                       rotate_left
                       ·simp only [Act.put, zA_, zB_, zC_, i64_w, i32_w]
                        rfl
                       refine pure_ (i := 25) (N := some 92) (v := ?_) (a' := ?_) #[T_,T_,T_,T_,T_,T_,T_,T_,T_,T_,T_,T_,T_,T_,T_,T_,T_,T_,T_,T_,T_,T_,T_,T_,T_,T_,F_,F_,F_,F_,F_,F_,F_,F_,F_,F_,F_,F_,F_,F_,F_,F_,F_,F_,F_,F_,F_,F_,F_,F_,F_,F_,F_,F_,F_,F_,F_,F_,F_,F_,F_,F_,F_,F_,F_,F_,F_,F_,F_,F_,F_,F_,F_,F_,F_,F_,F_,F_,F_,F_,F_,F_,F_,F_,F_,F_,F_,F_,F_,F_,F_,F_,F_,F_,F_,F_] rfl rfl (any_of HT_.out (by kernel_rfl)) (fun _ _ _ h => h) (Or.inl ⟨by rfl, ?_⟩) ?_ ?_
                       rotate_left
                       ·intro w'
                        go_simp
                        with_reducible rfl
                       rotate_left
                       ·simp only [Act.put, zA_, zB_, zC_, i64_w, i32_w]
                        rfl
                       refine pure_ (i := 26) (N := some 93) (v := ?_) (a' := ?_) #[T_,T_,T_,T_,T_,T_,T_,T_,T_,T_,T_,T_,T_,T_,T_,T_,T_,T_,T_,T_,T_,T_,T_,T_,T_,T_,T_,F_,F_,F_,F_,F_,F_,F_,F_,F_,F_,F_,F_,F_,F_,F_,F_,F_,F_,F_,F_,F_,F_,F_,F_,F_,F_,F_,F_,F_,F_,F_,F_,F_,F_,F_,F_,F_,F_,F_,F_,F_,F_,F_,F_,F_,F_,F_,F_,F_,F_,F_,F_,F_,F_,F_,F_,F_,F_,F_,F_,F_,F_,F_,F_,F_,F_,F_,F_,F_] rfl rfl (any_of HT_.out (by kernel_rfl)) (fun _ _ _ h => h) (Or.inl ⟨by rfl, ?_⟩) ?_ ?_
                       rotate_left
                       ·intro w'
                        go_simp
                        with_reducible rfl
                       rotate_left
                       ·simp only [Act.put, zA_, zB_, zC_, i64_w, i32_w]
                        rfl
                       refine pure_ (i := 27) (N := some 94) (v := ?_) (a' := ?_) #[T_,T_,T_,T_,T_,T_,T_,T_,T_,T_,T_,T_,T_,T_,T_,T_,T_,T_,T_,T_,T_,T_,T_,T_,T_,T_,T_,T_,F_,F_,F_,F_,F_,F_,F_,F_,F_,F_,F_,F_,F_,F_,F_,F_,F_,F_,F_,F_,F_,F_,F_,F_,F_,F_,F_,F_,F_,F_,F_,F_,F_,F_,F_,F_,F_,F_,F_,F_,F_,F_,F_,F_,F_,F_,F_,F_,F_,F_,F_,F_,F_,F_,F_,F_,F_,F_,F_,F_,F_,F_,F_,F_,F_,F_,F_,F_] rfl rfl (any_of HT_.out (by kernel_rfl)) (fun _ _ _ h => h) (Or.inl ⟨by rfl, ?_⟩) ?_ ?_
                       rotate_left
                       ·intro w'
                        go_simp
                        with_reducible rfl
                       rotate_left
                       ·simp only [Act.put, zA_, zB_, zC_, i64_w, i32_w]
                        rfl
                       refine pure_ (i := 28) (N := some 95) (v := ?_) (a' := ?_) #[T_,T_,T_,T_,T_,T_,T_,T_,T_,T_,T_,T_,T_,T_,T_,T_,T_,T_,T_,T_,T_,T_,T_,T_,T_,T_,T_,T_,T_,F_,F_,F_,F_,F_,F_,F_,F_,F_,F_,F_,F_,F_,F_,F_,F_,F_,F_,F_,F_,F_,F_,F_,F_,F_,F_,F_,F_,F_,F_,F_,F_,F_,F_,F_,F_,F_,F_,F_,F_,F_,F_,F_,F_,F_,F_,F_,F_,F_,F_,F_,F_,F_,F_,F_,F_,F_,F_,F_,F_,F_,F_,F_,F_,F_,F_,F_] rfl rfl (any_of HT_.out (by kernel_rfl)) (fun _ _ _ h => h) (Or.inl ⟨by rfl, ?_⟩) ?_ ?_
                       rotate_left
                       ·intro w'
                        go_simp
                        with_reducible rfl
                       rotate_left
                       ·simp only [Act.put, zA_, zB_, zC_, i64_w, i32_w]
                        rfl
                       refine pure_ (i := 29) (N := some 96) (v := ?_) (a' := ?_) #[T_,T_,T_,T_,T_,T_,T_,T_,T_,T_,T_,T_,T_,T_,T_,T_,T_,T_,T_,T_,T_,T_,T_,T_,T_,T_,T_,T_,T_,T_,F_,F_,F_,F_,F_,F_,F_,F_,F_,F_,F_,F_,F_,F_,F_,F_,F_,F_,F_,F_,F_,F_,F_,F_,F_,F_,F_,F_,F_,F_,F_,F_,F_,F_,F_,F_,F_,F_,F_,F_,F_,F_,F_,F_,F_,F_,F_,F_,F_,F_,F_,F_,F_,F_,F_,F_,F_,F_,F_,F_,F_,F_,F_,F_,F_,F_] rfl rfl (any_of HT_.out (by kernel_rfl)) (fun _ _ _ h => h) (Or.inl ⟨by rfl, ?_⟩) ?_ ?_
                       rotate_left
                       ·intro w'
                        go_simp
                        with_reducible rfl
                       rotate_left
                       ·simp only [Act.put, zA_, zB_, zC_, i64_w, i32_w]
                        rfl
                       refine pure_ (i := 30) (N := some 97) (v := ?_) (a' := ?_) #[T_,T_,T_,T_,T_,T_,T_,T_,T_,T_,T_,T_,T_,T_,T_,T_,T_,T_,T_,T_,T_,T_,T_,T_,T_,T_,T_,T_,T_,T_,T_,F_,F_,F_,F_,F_,F_,F_,F_,F_,F_,F_,F_,F_,F_,F_,F_,F_,F_,F_,F_,F_,F_,F_,F_,F_,F_,F_,F_,F_,F_,F_,F_,F_,F_,F_,F_,F_,F_,F_,F_,F_,F_,F_,F_,F_,F_,F_,F_,F_,F_,F_,F_,F_,F_,F_,F_,F_,F_,F_,F_,F_,F_,F_,F_,F_] rfl rfl (any_of HT_.out (by kernel_rfl)) (fun _ _ _ h => h) (Or.inl ⟨by rfl, ?_⟩) ?_ ?_
                       rotate_left
                       ·intro w'
                        go_simp
                        with_reducible rfl
                       rotate_left
                       ·simp only [Act.put, zA_, zB_, zC_, i64_w, i32_w]
                        rfl
                       refine pure_ (i := 31) (N := some 98) (v := ?_) (a' := ?_) #[T_,T_,T_,T_,T_,T_,T_,T_,T_,T_,T_,T_,T_,T_,T_,T_,T_,T_,T_,T_,T_,T_,T_,T_,T_,T_,T_,T_,T_,T_,T_,T_,F_,F_,F_,F_,F_,F_,F_,F_,F_,F_,F_,F_,F_,F_,F_,F_,F_,F_,F_,F_,F_,F_,F_,F_,F_,F_,F_,F_,F_,F_,F_,F_,F_,F_,F_,F_,F_,F_,F_,F_,F_,F_,F_,F_,F_,F_,F_,F_,F_,F_,F_,F_,F_,F_,F_,F_,F_,F_,F_,F_,F_,F_,F_,F_] rfl rfl (any_of HT_.out (by kernel_rfl)) (fun _ _ _ h => h) (Or.inl ⟨by rfl, ?_⟩) ?_ ?_
                       rotate_left
                       ·intro w'
                        go_simp
                        with_reducible rfl
                       rotate_left
                       ·simp only [Act.put, zA_, zB_, zC_, i64_w, i32_w]
                        rfl
                       refine take_ (i := 32) (N := some 99) (v := ?_) (a' := ?_) #[T_,T_,T_,T_,T_,T_,T_,T_,T_,T_,T_,T_,T_,T_,T_,T_,T_,T_,T_,T_,T_,T_,T_,T_,T_,T_,T_,T_,T_,T_,T_,T_,T_,F_,F_,F_,F_,F_,F_,F_,F_,F_,F_,F_,F_,F_,F_,F_,F_,F_,F_,F_,F_,F_,F_,F_,F_,F_,F_,F_,F_,F_,F_,F_,F_,F_,F_,F_,F_,F_,F_,F_,F_,F_,F_,F_,F_,F_,F_,F_,F_,F_,F_,F_,F_,F_,F_,F_,F_,F_,F_,F_,F_,F_,F_,F_] rfl rfl (take_ofW HT_.out HW_.out (by kernel_rfl)) (fun _ _ _ h => h) (Or.inl ⟨by rfl, ?_⟩) hHeld ?_ ?_
                       rotate_left
                       ·rintro w' ⟨s0, s1, s2, s3, s4, s5, s6, s7⟩
                        have hcv := own_string (P := Try.prog) Try.underlying22 Try.underlying5 Try.underlying9 (Kd.own_of_R s6)
                        go_simp
                        first | (with_reducible rfl) | (constructor <;> rfl) | rfl
                       rotate_left
                       ·simp only [Act.put, zA_, zB_, zC_, i64_w, i32_w]
                        rfl
                       refine pure_ (i := 33) (N := some 100) (v := ?_) (a' := ?_) #[T_,T_,T_,T_,T_,T_,T_,T_,T_,T_,T_,T_,T_,T_,T_,T_,T_,T_,T_,T_,T_,T_,T_,T_,T_,T_,T_,T_,T_,T_,T_,T_,T_,T_,F_,F_,F_,F_,F_,F_,F_,F_,F_,F_,F_,F_,F_,F_,F_,F_,F_,F_,F_,F_,F_,F_,F_,F_,F_,F_,F_,F_,F_,F_,F_,F_,F_,F_,F_,F_,F_,F_,F_,F_,F_,F_,F_,F_,F_,F_,F_,F_,F_,F_,F_,F_,F_,F_,F_,F_,F_,F_,F_,F_,F_,F_] rfl rfl (any_of HT_.out (by kernel_rfl)) (fun _ _ _ h => h) (Or.inl ⟨by rfl, ?_⟩) ?_ ?_
                       rotate_left
                       ·intro w'
                        go_simp
                        with_reducible rfl
                       rotate_left
                       ·simp only [Act.put, zA_, zB_, zC_, i64_w, i32_w]
                        rfl
                       refine pure_ (i := 34) (N := some 101) (v := ?_) (a' := ?_) #[T_,T_,T_,T_,T_,T_,T_,T_,T_,T_,T_,T_,T_,T_,T_,T_,T_,T_,T_,T_,T_,T_,T_,T_,T_,T_,T_,T_,T_,T_,T_,T_,T_,T_,T_,F_,F_,F_,F_,F_,F_,F_,F_,F_,F_,F_,F_,F_,F_,F_,F_,F_,F_,F_,F_,F_,F_,F_,F_,F_,F_,F_,F_,F_,F_,F_,F_,F_,F_,F_,F_,F_,F_,F_,F_,F_,F_,F_,F_,F_,F_,F_,F_,F_,F_,F_,F_,F_,F_,F_,F_,F_,F_,F_,F_,F_] rfl rfl (any_of HT_.out (by kernel_rfl)) (fun _ _ _ h => h) (Or.inl ⟨by rfl, ?_⟩) ?_ ?_
                       rotate_left
                       ·intro w'
                        go_simp
                        with_reducible rfl
                       rotate_left
                       ·simp only [Act.put, zA_, zB_, zC_, i64_w, i32_w]
                        rfl
                       refine pure_ (i := 35) (N := some 102) (v := ?_) (a' := ?_) #[T_,T_,T_,T_,T_,T_,T_,T_,T_,T_,T_,T_,T_,T_,T_,T_,T_,T_,T_,T_,T_,T_,T_,T_,T_,T_,T_,T_,T_,T_,T_,T_,T_,T_,T_,T_,F_,F_,F_,F_,F_,F_,F_,F_,F_,F_,F_,F_,F_,F_,F_,F_,F_,F_,F_,F_,F_,F_,F_,F_,F_,F_,F_,F_,F_,F_,F_,F_,F_,F_,F_,F_,F_,F_,F_,F_,F_,F_,F_,F_,F_,F_,F_,F_,F_,F_,F_,F_,F_,F_,F_,F_,F_,F_,F_,F_] rfl rfl (any_of HT_.out (by kernel_rfl)) (fun _ _ _ h => h) (Or.inl ⟨by rfl, ?_⟩) ?_ ?_
                       rotate_left
                       ·intro w'
                        go_simp
                        with_reducible rfl
                       rotate_left
                       ·simp only [Act.put, zA_, zB_, zC_, i64_w, i32_w]
                        rfl
                       refine pure_ (i := 36) (N := some 103) (v := ?_) (a' := ?_) #[T_,T_,T_,T_,T_,T_,T_,T_,T_,T_,T_,T_,T_,T_,T_,T_,T_,T_,T_,T_,T_,T_,T_,T_,T_,T_,T_,T_,T_,T_,T_,T_,T_,T_,T_,T_,T_,F_,F_,F_,F_,F_,F_,F_,F_,F_,F_,F_,F_,F_,F_,F_,F_,F_,F_,F_,F_,F_,F_,F_,F_,F_,F_,F_,F_,F_,F_,F_,F_,F_,F_,F_,F_,F_,F_,F_,F_,F_,F_,F_,F_,F_,F_,F_,F_,F_,F_,F_,F_,F_,F_,F_,F_,F_,F_,F_] rfl rfl (any_of HT_.out (by kernel_rfl)) (fun _ _ _ h => h) (Or.inl ⟨by rfl, ?_⟩) ?_ ?_
                       rotate_left
                       ·intro w'
                        go_simp
                        with_reducible rfl
                       rotate_left
                       ·simp only [Act.put, zA_, zB_, zC_, i64_w, i32_w]
                        rfl
                       refine pure_ (i := 37) (N := some 104) (v := ?_) (a' := ?_) #[T_,T_,T_,T_,T_,T_,T_,T_,T_,T_,T_,T_,T_,T_,T_,T_,T_,T_,T_,T_,T_,T_,T_,T_,T_,T_,T_,T_,T_,T_,T_,T_,T_,T_,T_,T_,T_,T_,F_,F_,F_,F_,F_,F_,F_,F_,F_,F_,F_,F_,F_,F_,F_,F_,F_,F_,F_,F_,F_,F_,F_,F_,F_,F_,F_,F_,F_,F_,F_,F_,F_,F_,F_,F_,F_,F_,F_,F_,F_,F_,F_,F_,F_,F_,F_,F_,F_,F_,F_,F_,F_,F_,F_,F_,F_,F_] rfl rfl (any_of HT_.out (by kernel_rfl)) (fun _ _ _ h => h) (Or.inl ⟨by rfl, ?_⟩) ?_ ?_
                       rotate_left
                       ·intro w'
                        go_simp
                        with_reducible rfl
                       rotate_left
                       ·simp only [Act.put, zA_, zB_, zC_, i64_w, i32_w]
                        rfl
                       refine pure_ (i := 38) (N := some 105) (v := ?_) (a' := ?_) #[T_,T_,T_,T_,T_,T_,T_,T_,T_,T_,T_,T_,T_,T_,T_,T_,T_,T_,T_,T_,T_,T_,T_,T_,T_,T_,T_,T_,T_,T_,T_,T_,T_,T_,T_,T_,T_,T_,T_,F_,F_,F_,F_,F_,F_,F_,F_,F_,F_,F_,F_,F_,F_,F_,F_,F_,F_,F_,F_,F_,F_,F_,F_,F_,F_,F_,F_,F_,F_,F_,F_,F_,F_,F_,F_,F_,F_,F_,F_,F_,F_,F_,F_,F_,F_,F_,F_,F_,F_,F_,F_,F_,F_,F_,F_,F_] rfl rfl (any_of HT_.out (by kernel_rfl)) (fun _ _ _ h => h) (Or.inl ⟨by rfl, ?_⟩) ?_ ?_
                       rotate_left
                       ·intro w'
                        go_simp
                        with_reducible rfl
                       rotate_left
                       ·simp only [Act.put, zA_, zB_, zC_, i64_w, i32_w]
                        rfl
                       refine pure_ (i := 39) (N := some 106) (v := ?_) (a' := ?_) #[T_,T_,T_,T_,T_,T_,T_,T_,T_,T_,T_,T_,T_,T_,T_,T_,T_,T_,T_,T_,T_,T_,T_,T_,T_,T_,T_,T_,T_,T_,T_,T_,T_,T_,T_,T_,T_,T_,T_,T_,F_,F_,F_,F_,F_,F_,F_,F_,F_,F_,F_,F_,F_,F_,F_,F_,F_,F_,F_,F_,F_,F_,F_,F_,F_,F_,F_,F_,F_,F_,F_,F_,F_,F_,F_,F_,F_,F_,F_,F_,F_,F_,F_,F_,F_,F_,F_,F_,F_,F_,F_,F_,F_,F_,F_,F_] rfl rfl (any_of HT_.out (by kernel_rfl)) (fun _ _ _ h => h) (Or.inl ⟨by rfl, ?_⟩) ?_ ?_
                       rotate_left
                       ·intro w'
                        go_simp
                        with_reducible rfl
                       rotate_left
                       ·simp only [Act.put, zA_, zB_, zC_, i64_w, i32_w]
                        rfl
                       refine pure_ (i := 40) (N := some 107) (v := ?_) (a' := ?_) #[T_,T_,T_,T_,T_,T_,T_,T_,T_,T_,T_,T_,T_,T_,T_,T_,T_,T_,T_,T_,T_,T_,T_,T_,T_,T_,T_,T_,T_,T_,T_,T_,T_,T_,T_,T_,T_,T_,T_,T_,T_,F_,F_,F_,F_,F_,F_,F_,F_,F_,F_,F_,F_,F_,F_,F_,F_,F_,F_,F_,F_,F_,F_,F_,F_,F_,F_,F_,F_,F_,F_,F_,F_,F_,F_,F_,F_,F_,F_,F_,F_,F_,F_,F_,F_,F_,F_,F_,F_,F_,F_,F_,F_,F_,F_,F_] rfl rfl (any_of HT_.out (by kernel_rfl)) (fun _ _ _ h => h) (Or.inl ⟨by rfl, ?_⟩) ?_ ?_
                       rotate_left
                       ·intro w'
                        go_simp
                        with_reducible rfl
                       rotate_left
                       ·simp only [Act.put, zA_, zB_, zC_, i64_w, i32_w]
                        rfl
                       refine pure_ (i := 41) (N := some 108) (v := ?_) (a' := ?_) #[T_,T_,T_,T_,T_,T_,T_,T_,T_,T_,T_,T_,T_,T_,T_,T_,T_,T_,T_,T_,T_,T_,T_,T_,T_,T_,T_,T_,T_,T_,T_,T_,T_,T_,T_,T_,T_,T_,T_,T_,T_,T_,F_,F_,F_,F_,F_,F_,F_,F_,F_,F_,F_,F_,F_,F_,F_,F_,F_,F_,F_,F_,F_,F_,F_,F_,F_,F_,F_,F_,F_,F_,F_,F_,F_,F_,F_,F_,F_,F_,F_,F_,F_,F_,F_,F_,F_,F_,F_,F_,F_,F_,F_,F_,F_,F_] rfl rfl (any_of HT_.out (by kernel_rfl)) (fun _ _ _ h => h) (Or.inl ⟨by rfl, ?_⟩) ?_ ?_
                       rotate_left
                       ·intro w'
                        go_simp
                        with_reducible rfl
                       rotate_left
                       ·simp only [Act.put, zA_, zB_, zC_, i64_w, i32_w]
                        rfl
                       refine pure_ (i := 42) (N := some 109) (v := ?_) (a' := ?_) #[T_,T_,T_,T_,T_,T_,T_,T_,T_,T_,T_,T_,T_,T_,T_,T_,T_,T_,T_,T_,T_,T_,T_,T_,T_,T_,T_,T_,T_,T_,T_,T_,T_,T_,T_,T_,T_,T_,T_,T_,T_,T_,T_,F_,F_,F_,F_,F_,F_,F_,F_,F_,F_,F_,F_,F_,F_,F_,F_,F_,F_,F_,F_,F_,F_,F_,F_,F_,F_,F_,F_,F_,F_,F_,F_,F_,F_,F_,F_,F_,F_,F_,F_,F_,F_,F_,F_,F_,F_,F_,F_,F_,F_,F_,F_,F_] rfl rfl (any_of HT_.out (by kernel_rfl)) (fun _ _ _ h => h) (Or.inl ⟨by rfl, ?_⟩) ?_ ?_
                       rotate_left
                       ·intro w'
                        go_simp
                        with_reducible rfl
                       rotate_left
                       ·simp only [Act.put, zA_, zB_, zC_, i64_w, i32_w]
                        rfl
                       refine pure_ (i := 43) (N := some 110) (v := ?_) (a' := ?_) #[T_,T_,T_,T_,T_,T_,T_,T_,T_,T_,T_,T_,T_,T_,T_,T_,T_,T_,T_,T_,T_,T_,T_,T_,T_,T_,T_,T_,T_,T_,T_,T_,T_,T_,T_,T_,T_,T_,T_,T_,T_,T_,T_,T_,F_,F_,F_,F_,F_,F_,F_,F_,F_,F_,F_,F_,F_,F_,F_,F_,F_,F_,F_,F_,F_,F_,F_,F_,F_,F_,F_,F_,F_,F_,F_,F_,F_,F_,F_,F_,F_,F_,F_,F_,F_,F_,F_,F_,F_,F_,F_,F_,F_,F_,F_,F_] rfl rfl (any_of HT_.out (by kernel_rfl)) (fun _ _ _ h => h) (Or.inl ⟨by rfl, ?_⟩) ?_ ?_
                       rotate_left
                       ·intro w'
                        go_simp
                        with_reducible rfl
                       rotate_left
                       ·simp only [Act.put, zA_, zB_, zC_, i64_w, i32_w]
                        rfl
                       refine pure_ (i := 44) (N := some 111) (v := ?_) (a' := ?_) #[T_,T_,T_,T_,T_,T_,T_,T_,T_,T_,T_,T_,T_,T_,T_,T_,T_,T_,T_,T_,T_,T_,T_,T_,T_,T_,T_,T_,T_,T_,T_,T_,T_,T_,T_,T_,T_,T_,T_,T_,T_,T_,T_,T_,T_,F_,F_,F_,F_,F_,F_,F_,F_,F_,F_,F_,F_,F_,F_,F_,F_,F_,F_,F_,F_,F_,F_,F_,F_,F_,F_,F_,F_,F_,F_,F_,F_,F_,F_,F_,F_,F_,F_,F_,F_,F_,F_,F_,F_,F_,F_,F_,F_,F_,F_,F_] rfl rfl (any_of HT_.out (by kernel_rfl)) (fun _ _ _ h => h) (Or.inl ⟨by rfl, ?_⟩) ?_ ?_
                       rotate_left
                       ·intro w'
                        go_simp
                        with_reducible rfl
                       rotate_left
                       ·simp only [Act.put, zA_, zB_, zC_, i64_w, i32_w]
                        rfl
                       refine pure_ (i := 45) (N := some 112) (v := ?_) (a' := ?_) #[T_,T_,T_,T_,T_,T_,T_,T_,T_,T_,T_,T_,T_,T_,T_,T_,T_,T_,T_,T_,T_,T_,T_,T_,T_,T_,T_,T_,T_,T_,T_,T_,T_,T_,T_,T_,T_,T_,T_,T_,T_,T_,T_,T_,T_,T_,F_,F_,F_,F_,F_,F_,F_,F_,F_,F_,F_,F_,F_,F_,F_,F_,F_,F_,F_,F_,F_,F_,F_,F_,F_,F_,F_,F_,F_,F_,F_,F_,F_,F_,F_,F_,F_,F_,F_,F_,F_,F_,F_,F_,F_,F_,F_,F_,F_,F_] rfl rfl (any_of HT_.out (by kernel_rfl)) (fun _ _ _ h => h) (Or.inl ⟨by rfl, ?_⟩) ?_ ?_
                       rotate_left
                       ·intro w'
                        go_simp
                        with_reducible rfl
                       rotate_left
                       ·simp only [Act.put, zA_, zB_, zC_, i64_w, i32_w]
                        rfl
                       refine pure_ (i := 46) (N := some 113) (v := ?_) (a' := ?_) #[T_,T_,T_,T_,T_,T_,T_,T_,T_,T_,T_,T_,T_,T_,T_,T_,T_,T_,T_,T_,T_,T_,T_,T_,T_,T_,T_,T_,T_,T_,T_,T_,T_,T_,T_,T_,T_,T_,T_,T_,T_,T_,T_,T_,T_,T_,T_,F_,F_,F_,F_,F_,F_,F_,F_,F_,F_,F_,F_,F_,F_,F_,F_,F_,F_,F_,F_,F_,F_,F_,F_,F_,F_,F_,F_,F_,F_,F_,F_,F_,F_,F_,F_,F_,F_,F_,F_,F_,F_,F_,F_,F_,F_,F_,F_,F_] rfl rfl (any_of HT_.out (by kernel_rfl)) (fun _ _ _ h => h) (Or.inl ⟨by rfl, ?_⟩) ?_ ?_
                       rotate_left
                       ·intro w'
                        go_simp
                        with_reducible rfl
                       rotate_left
                       ·simp only [Act.put, zA_, zB_, zC_, i64_w, i32_w]
                        rfl
                       refine pure_ (i := 47) (N := some 114) (v := ?_) (a' := ?_) #[T_,T_,T_,T_,T_,T_,T_,T_,T_,T_,T_,T_,T_,T_,T_,T_,T_,T_,T_,T_,T_,T_,T_,T_,T_,T_,T_,T_,T_,T_,T_,T_,T_,T_,T_,T_,T_,T_,T_,T_,T_,T_,T_,T_,T_,T_,T_,T_,F_,F_,F_,F_,F_,F_,F_,F_,F_,F_,F_,F_,F_,F_,F_,F_,F_,F_,F_,F_,F_,F_,F_,F_,F_,F_,F_,F_,F_,F_,F_,F_,F_,F_,F_,F_,F_,F_,F_,F_,F_,F_,F_,F_,F_,F_,F_,F_] rfl rfl (any_of HT_.out (by kernel_rfl)) (fun _ _ _ h => h) (Or.inl ⟨by rfl, ?_⟩) ?_ ?_
                       rotate_left
                       ·intro w'
                        go_simp
                        with_reducible rfl
                       rotate_left
                       ·simp only [Act.put, zA_, zB_, zC_, i64_w, i32_w]
                        rfl
                       refine pure_ (i := 48) (N := some 115) (v := ?_) (a' := ?_) #[T_,T_,T_,T_,T_,T_,T_,T_,T_,T_,T_,T_,T_,T_,T_,T_,T_,T_,T_,T_,T_,T_,T_,T_,T_,T_,T_,T_,T_,T_,T_,T_,T_,T_,T_,T_,T_,T_,T_,T_,T_,T_,T_,T_,T_,T_,T_,T_,T_,F_,F_,F_,F_,F_,F_,F_,F_,F_,F_,F_,F_,F_,F_,F_,F_,F_,F_,F_,F_,F_,F_,F_,F_,F_,F_,F_,F_,F_,F_,F_,F_,F_,F_,F_,F_,F_,F_,F_,F_,F_,F_,F_,F_,F_,F_,F_] rfl rfl (any_of HT_.out (by kernel_rfl)) (fun _ _ _ h => h) (Or.inl ⟨by rfl, ?_⟩) ?_ ?_
                       rotate_left
                       ·intro w'
                        go_simp
                        with_reducible rfl
                       rotate_left
                       ·simp only [Act.put, zA_, zB_, zC_, i64_w, i32_w]
                        rfl
                       refine pure_ (i := 49) (N := some 116) (v := ?_) (a' := ?_) #[T_,T_,T_,T_,T_,T_,T_,T_,T_,T_,T_,T_,T_,T_,T_,T_,T_,T_,T_,T_,T_,T_,T_,T_,T_,T_,T_,T_,T_,T_,T_,T_,T_,T_,T_,T_,T_,T_,T_,T_,T_,T_,T_,T_,T_,T_,T_,T_,T_,T_,F_,F_,F_,F_,F_,F_,F_,F_,F_,F_,F_,F_,F_,F_,F_,F_,F_,F_,F_,F_,F_,F_,F_,F_,F_,F_,F_,F_,F_,F_,F_,F_,F_,F_,F_,F_,F_,F_,F_,F_,F_,F_,F_,F_,F_,F_] rfl rfl (any_of HT_.out (by kernel_rfl)) (fun _ _ _ h => h) (Or.inl ⟨by rfl, ?_⟩) ?_ ?_
                       rotate_left
                       ·intro w'
                        go_simp
                        with_reducible rfl
                       rotate_left
                       ·simp only [Act.put, zA_, zB_, zC_, i64_w, i32_w]
                        rfl
                       refine pure_ (i := 50) (N := some 117) (v := ?_) (a' := ?_) #[T_,T_,T_,T_,T_,T_,T_,T_,T_,T_,T_,T_,T_,T_,T_,T_,T_,T_,T_,T_,T_,T_,T_,T_,T_,T_,T_,T_,T_,T_,T_,T_,T_,T_,T_,T_,T_,T_,T_,T_,T_,T_,T_,T_,T_,T_,T_,T_,T_,T_,T_,F_,F_,F_,F_,F_,F_,F_,F_,F_,F_,F_,F_,F_,F_,F_,F_,F_,F_,F_,F_,F_,F_,F_,F_,F_,F_,F_,F_,F_,F_,F_,F_,F_,F_,F_,F_,F_,F_,F_,F_,F_,F_,F_,F_,F_] rfl rfl (any_of HT_.out (by kernel_rfl)) (fun _ _ _ h => h) (Or.inl ⟨by rfl, ?_⟩) ?_ ?_
                       rotate_left
                       ·intro w'
                        go_simp
                        with_reducible rfl
                       rotate_left
                       ·simp only [Act.put, zA_, zB_, zC_, i64_w, i32_w]
                        rfl
                       refine pure_ (i := 51) (N := some 118) (v := ?_) (a' := ?_) #[T_,T_,T_,T_,T_,T_,T_,T_,T_,T_,T_,T_,T_,T_,T_,T_,T_,T_,T_,T_,T_,T_,T_,T_,T_,T_,T_,T_,T_,T_,T_,T_,T_,T_,T_,T_,T_,T_,T_,T_,T_,T_,T_,T_,T_,T_,T_,T_,T_,T_,T_,T_,F_,F_,F_,F_,F_,F_,F_,F_,F_,F_,F_,F_,F_,F_,F_,F_,F_,F_,F_,F_,F_,F_,F_,F_,F_,F_,F_,F_,F_,F_,F_,F_,F_,F_,F_,F_,F_,F_,F_,F_,F_,F_,F_,F_] rfl rfl (any_of HT_.out (by kernel_rfl)) (fun _ _ _ h => h) (Or.inl ⟨by rfl, ?_⟩) ?_ ?_
                       rotate_left
                       ·intro w'
                        go_simp
                        with_reducible rfl
                       rotate_left
                       ·simp only [Act.put, zA_, zB_, zC_, i64_w, i32_w]
                        rfl
                       refine pure_ (i := 52) (N := some 119) (v := ?_) (a' := ?_) #[T_,T_,T_,T_,T_,T_,T_,T_,T_,T_,T_,T_,T_,T_,T_,T_,T_,T_,T_,T_,T_,T_,T_,T_,T_,T_,T_,T_,T_,T_,T_,T_,T_,T_,T_,T_,T_,T_,T_,T_,T_,T_,T_,T_,T_,T_,T_,T_,T_,T_,T_,T_,T_,F_,F_,F_,F_,F_,F_,F_,F_,F_,F_,F_,F_,F_,F_,F_,F_,F_,F_,F_,F_,F_,F_,F_,F_,F_,F_,F_,F_,F_,F_,F_,F_,F_,F_,F_,F_,F_,F_,F_,F_,F_,F_,F_] rfl rfl (any_of HT_.out (by kernel_rfl)) (fun _ _ _ h => h) (Or.inl ⟨by rfl, ?_⟩) ?_ ?_
                       rotate_left
                       ·intro w'
                        go_simp
                        with_reducible rfl
                       rotate_left
                       ·simp only [Act.put, zA_, zB_, zC_, i64_w, i32_w]
                        rfl
                       refine pure_ (i := 53) (N := some 120) (v := ?_) (a' := ?_) #[T_,T_,T_,T_,T_,T_,T_,T_,T_,T_,T_,T_,T_,T_,T_,T_,T_,T_,T_,T_,T_,T_,T_,T_,T_,T_,T_,T_,T_,T_,T_,T_,T_,T_,T_,T_,T_,T_,T_,T_,T_,T_,T_,T_,T_,T_,T_,T_,T_,T_,T_,T_,T_,T_,F_,F_,F_,F_,F_,F_,F_,F_,F_,F_,F_,F_,F_,F_,F_,F_,F_,F_,F_,F_,F_,F_,F_,F_,F_,F_,F_,F_,F_,F_,F_,F_,F_,F_,F_,F_,F_,F_,F_,F_,F_,F_] rfl rfl (any_of HT_.out (by kernel_rfl)) (fun _ _ _ h => h) (Or.inl ⟨by rfl, ?_⟩) ?_ ?_
                       rotate_left
                       ·intro w'
                        go_simp
                        with_reducible rfl
                       rotate_left
                       ·simp only [Act.put, zA_, zB_, zC_, i64_w, i32_w]
                        rfl
                       refine pure_ (i := 54) (N := some 121) (v := ?_) (a' := ?_) #[T_,T_,T_,T_,T_,T_,T_,T_,T_,T_,T_,T_,T_,T_,T_,T_,T_,T_,T_,T_,T_,T_,T_,T_,T_,T_,T_,T_,T_,T_,T_,T_,T_,T_,T_,T_,T_,T_,T_,T_,T_,T_,T_,T_,T_,T_,T_,T_,T_,T_,T_,T_,T_,T_,T_,F_,F_,F_,F_,F_,F_,F_,F_,F_,F_,F_,F_,F_,F_,F_,F_,F_,F_,F_,F_,F_,F_,F_,F_,F_,F_,F_,F_,F_,F_,F_,F_,F_,F_,F_,F_,F_,F_,F_,F_,F_] rfl rfl (any_of HT_.out (by kernel_rfl)) (fun _ _ _ h => h) (Or.inl ⟨by rfl, ?_⟩) ?_ ?_
                       rotate_left
                       ·intro w'
                        go_simp
                        with_reducible rfl
                       rotate_left
                       ·simp only [Act.put, zA_, zB_, zC_, i64_w, i32_w]
                        rfl
                       refine pure_ (i := 55) (N := some 122) (v := ?_) (a' := ?_) #[T_,T_,T_,T_,T_,T_,T_,T_,T_,T_,T_,T_,T_,T_,T_,T_,T_,T_,T_,T_,T_,T_,T_,T_,T_,T_,T_,T_,T_,T_,T_,T_,T_,T_,T_,T_,T_,T_,T_,T_,T_,T_,T_,T_,T_,T_,T_,T_,T_,T_,T_,T_,T_,T_,T_,T_,F_,F_,F_,F_,F_,F_,F_,F_,F_,F_,F_,F_,F_,F_,F_,F_,F_,F_,F_,F_,F_,F_,F_,F_,F_,F_,F_,F_,F_,F_,F_,F_,F_,F_,F_,F_,F_,F_,F_,F_] rfl rfl (any_of HT_.out (by kernel_rfl)) (fun _ _ _ h => h) (Or.inl ⟨by rfl, ?_⟩) ?_ ?_
                       rotate_left
                       ·intro w'
                        go_simp
                        with_reducible rfl
                       rotate_left
                       ·simp only [Act.put, zA_, zB_, zC_, i64_w, i32_w]
                        rfl
                       refine pure_ (i := 56) (N := some 123) (v := ?_) (a' := ?_) #[T_,T_,T_,T_,T_,T_,T_,T_,T_,T_,T_,T_,T_,T_,T_,T_,T_,T_,T_,T_,T_,T_,T_,T_,T_,T_,T_,T_,T_,T_,T_,T_,T_,T_,T_,T_,T_,T_,T_,T_,T_,T_,T_,T_,T_,T_,T_,T_,T_,T_,T_,T_,T_,T_,T_,T_,T_,F_,F_,F_,F_,F_,F_,F_,F_,F_,F_,F_,F_,F_,F_,F_,F_,F_,F_,F_,F_,F_,F_,F_,F_,F_,F_,F_,F_,F_,F_,F_,F_,F_,F_,F_,F_,F_,F_,F_] rfl rfl (any_of HT_.out (by kernel_rfl)) (fun _ _ _ h => h) (Or.inl ⟨by rfl, ?_⟩) ?_ ?_
                       rotate_left
                       ·intro w'
                        go_simp
                        with_reducible rfl
                       rotate_left
                       ·simp only [Act.put, zA_, zB_, zC_, i64_w, i32_w]
                        rfl
                       refine pure_ (i := 57) (N := some 124) (v := ?_) (a' := ?_) #[T_,T_,T_,T_,T_,T_,T_,T_,T_,T_,T_,T_,T_,T_,T_,T_,T_,T_,T_,T_,T_,T_,T_,T_,T_,T_,T_,T_,T_,T_,T_,T_,T_,T_,T_,T_,T_,T_,T_,T_,T_,T_,T_,T_,T_,T_,T_,T_,T_,T_,T_,T_,T_,T_,T_,T_,T_,T_,F_,F_,F_,F_,F_,F_,F_,F_,F_,F_,F_,F_,F_,F_,F_,F_,F_,F_,F_,F_,F_,F_,F_,F_,F_,F_,F_,F_,F_,F_,F_,F_,F_,F_,F_,F_,F_,F_] rfl rfl (any_of HT_.out (by kernel_rfl)) (fun _ _ _ h => h) (Or.inl ⟨by rfl, ?_⟩) ?_ ?_
                       rotate_left
                       ·intro w'
                        go_simp
                        with_reducible rfl
                       rotate_left
                       ·simp only [Act.put, zA_, zB_, zC_, i64_w, i32_w]
                        rfl
                       refine one_ (i := 58) (N := some 125) #[T_,T_,T_,T_,T_,T_,T_,T_,T_,T_,T_,T_,T_,T_,T_,T_,T_,T_,T_,T_,T_,T_,T_,T_,T_,T_,T_,T_,T_,T_,T_,T_,T_,T_,T_,T_,T_,T_,T_,T_,T_,T_,T_,T_,T_,T_,T_,T_,T_,T_,T_,T_,T_,T_,T_,T_,T_,T_,T_,F_,F_,F_,F_,F_,F_,F_,F_,F_,F_,F_,F_,F_,F_,F_,F_,F_,F_,F_,F_,F_,F_,F_,F_,F_,F_,F_,F_,F_,F_,F_,F_,F_,F_,F_,F_,F_] rfl rfl (one_of HT_.out (by kernel_rfl)) (by decide) (fun K hK => ?_)
                       refine goes_ Try.func15 (by kernel_rfl) rfl #[.int .i64 31] (by rfl) rfl rfl (by (try simp only [List.map_toArray, List.map_cons, List.map_nil]); first | done | rfl | (simp only [List.length_drop, List.length_take]; rfl)) ?_
                       with_reducible refine (header_Code.calls 31 t192 _ A85.out).mono ?_
                       rintro e w' ⟨rfl, ⟨nd, rfl⟩⟩
                       refine ⟨_, rfl, ?_⟩
                       refine hK.out _ _ ⟨(blk_cell BK147.out 0).trans rfl, (blk_cell BK147.out 1).trans rfl, (blk_cell BK147.out 2).trans rfl, (blk_cell BK147.out 3).trans rfl, Kd.R_mono HO145.out (fun _ _ => trivial), Kd.R_mono HO150.out (fun _ _ => trivial), Kd.R_mono HO154.out (fun _ _ => trivial), Kd.R_mono HO138.out (fun _ _ => trivial)⟩ (fun hHeld => ?_)
                       clear hK K
                       refine norm_ (a' := ?_) ?_ ?_
                       rotate_left
                       ·show Act.put _ (some 125) _ = _
                        simp only [Act.put, zA_, zB_, zC_, i64_w, i32_w]
                        rfl
                       refine pure_ (i := 59) (N := some 126) (v := ?_) (a' := ?_) #[T_,T_,T_,T_,T_,T_,T_,T_,T_,T_,T_,T_,T_,T_,T_,T_,T_,T_,T_,T_,T_,T_,T_,T_,T_,T_,T_,T_,T_,T_,T_,T_,T_,T_,T_,T_,T_,T_,T_,T_,T_,T_,T_,T_,T_,T_,T_,T_,T_,T_,T_,T_,T_,T_,T_,T_,T_,T_,T_,T_,F_,F_,F_,F_,F_,F_,F_,F_,F_,F_,F_,F_,F_,F_,F_,F_,F_,F_,F_,F_,F_,F_,F_,F_,F_,F_,F_,F_,F_,F_,F_,F_,F_,F_,F_,F_] rfl rfl (any_of HT_.out (by kernel_rfl)) (fun _ _ _ h => h) (Or.inl ⟨by rfl, ?_⟩) ?_ ?_
                       rotate_left
                       ·intro w'
                        go_simp
                        with_reducible rfl
                       rotate_left
                       ·simp only [Act.put, zA_, zB_, zC_, i64_w, i32_w]
                        rfl
                       refine pure_ (i := 60) (N := some 127) (v := ?_) (a' := ?_) #[T_,T_,T_,T_,T_,T_,T_,T_,T_,T_,T_,T_,T_,T_,T_,T_,T_,T_,T_,T_,T_,T_,T_,T_,T_,T_,T_,T_,T_,T_,T_,T_,T_,T_,T_,T_,T_,T_,T_,T_,T_,T_,T_,T_,T_,T_,T_,T_,T_,T_,T_,T_,T_,T_,T_,T_,T_,T_,T_,T_,T_,F_,F_,F_,F_,F_,F_,F_,F_,F_,F_,F_,F_,F_,F_,F_,F_,F_,F_,F_,F_,F_,F_,F_,F_,F_,F_,F_,F_,F_,F_,F_,F_,F_,F_,F_] rfl rfl (any_of HT_.out (by kernel_rfl)) (fun _ _ _ h => h) (Or.inl ⟨by rfl, ?_⟩) ?_ ?_
                       rotate_left
                       ·intro w'
                        go_simp
                        with_reducible rfl
                       rotate_left
                       ·simp only [Act.put, zA_, zB_, zC_, i64_w, i32_w]
                        rfl
                       refine pure_ (i := 61) (N := some 128) (v := ?_) (a' := ?_) #[T_,T_,T_,T_,T_,T_,T_,T_,T_,T_,T_,T_,T_,T_,T_,T_,T_,T_,T_,T_,T_,T_,T_,T_,T_,T_,T_,T_,T_,T_,T_,T_,T_,T_,T_,T_,T_,T_,T_,T_,T_,T_,T_,T_,T_,T_,T_,T_,T_,T_,T_,T_,T_,T_,T_,T_,T_,T_,T_,T_,T_,T_,F_,F_,F_,F_,F_,F_,F_,F_,F_,F_,F_,F_,F_,F_,F_,F_,F_,F_,F_,F_,F_,F_,F_,F_,F_,F_,F_,F_,F_,F_,F_,F_,F_,F_] rfl rfl (any_of HT_.out (by kernel_rfl)) (fun _ _ _ h => h) (Or.inl ⟨by rfl, ?_⟩) ?_ ?_
                       rotate_left
                       ·intro w'
                        go_simp
                        with_reducible rfl
                       rotate_left
                       ·simp only [Act.put, zA_, zB_, zC_, i64_w, i32_w]
                        rfl
                       refine pure_ (i := 62) (N := some 129) (v := ?_) (a' := ?_) #[T_,T_,T_,T_,T_,T_,T_,T_,T_,T_,T_,T_,T_,T_,T_,T_,T_,T_,T_,T_,T_,T_,T_,T_,T_,T_,T_,T_,T_,T_,T_,T_,T_,T_,T_,T_,T_,T_,T_,T_,T_,T_,T_,T_,T_,T_,T_,T_,T_,T_,T_,T_,T_,T_,T_,T_,T_,T_,T_,T_,T_,T_,T_,F_,F_,F_,F_,F_,F_,F_,F_,F_,F_,F_,F_,F_,F_,F_,F_,F_,F_,F_,F_,F_,F_,F_,F_,F_,F_,F_,F_,F_,F_,F_,F_,F_] rfl rfl (any_of HT_.out (by kernel_rfl)) (fun _ _ _ h => h) (Or.inl ⟨by rfl, ?_⟩) ?_ ?_
                       rotate_left
                       ·intro w'
                        go_simp
                        with_reducible rfl
                       rotate_left
                       ·simp only [Act.put, zA_, zB_, zC_, i64_w, i32_w]
                        rfl
                       refine pure_ (i := 63) (N := some 130) (v := ?_) (a' := ?_) #[T_,T_,T_,T_,T_,T_,T_,T_,T_,T_,T_,T_,T_,T_,T_,T_,T_,T_,T_,T_,T_,T_,T_,T_,T_,T_,T_,T_,T_,T_,T_,T_,T_,T_,T_,T_,T_,T_,T_,T_,T_,T_,T_,T_,T_,T_,T_,T_,T_,T_,T_,T_,T_,T_,T_,T_,T_,T_,T_,T_,T_,T_,T_,T_,F_,F_,F_,F_,F_,F_,F_,F_,F_,F_,F_,F_,F_,F_,F_,F_,F_,F_,F_,F_,F_,F_,F_,F_,F_,F_,F_,F_,F_,F_,F_,F_] rfl rfl (any_of HT_.out (by kernel_rfl)) (fun _ _ _ h => h) (Or.inl ⟨by rfl, ?_⟩) ?_ ?_
                       rotate_left
                       ·intro w'
                        go_simp
                        with_reducible rfl
                       rotate_left
                       ·simp only [Act.put, zA_, zB_, zC_, i64_w, i32_w]
                        rfl
                       refine pure_ (i := 64) (N := some 131) (v := ?_) (a' := ?_) #[T_,T_,T_,T_,T_,T_,T_,T_,T_,T_,T_,T_,T_,T_,T_,T_,T_,T_,T_,T_,T_,T_,T_,T_,T_,T_,T_,T_,T_,T_,T_,T_,T_,T_,T_,T_,T_,T_,T_,T_,T_,T_,T_,T_,T_,T_,T_,T_,T_,T_,T_,T_,T_,T_,T_,T_,T_,T_,T_,T_,T_,T_,T_,T_,T_,F_,F_,F_,F_,F_,F_,F_,F_,F_,F_,F_,F_,F_,F_,F_,F_,F_,F_,F_,F_,F_,F_,F_,F_,F_,F_,F_,F_,F_,F_,F_] rfl rfl (any_of HT_.out (by kernel_rfl)) (fun _ _ _ h => h) (Or.inl ⟨by rfl, ?_⟩) ?_ ?_
                       rotate_left
                       ·intro w'
                        go_simp
                        with_reducible rfl
                       rotate_left
                       ·simp only [Act.put, zA_, zB_, zC_, i64_w, i32_w]
                        rfl
                       refine pure_ (i := 65) (N := some 132) (v := ?_) (a' := ?_) #[T_,T_,T_,T_,T_,T_,T_,T_,T_,T_,T_,T_,T_,T_,T_,T_,T_,T_,T_,T_,T_,T_,T_,T_,T_,T_,T_,T_,T_,T_,T_,T_,T_,T_,T_,T_,T_,T_,T_,T_,T_,T_,T_,T_,T_,T_,T_,T_,T_,T_,T_,T_,T_,T_,T_,T_,T_,T_,T_,T_,T_,T_,T_,T_,T_,T_,F_,F_,F_,F_,F_,F_,F_,F_,F_,F_,F_,F_,F_,F_,F_,F_,F_,F_,F_,F_,F_,F_,F_,F_,F_,F_,F_,F_,F_,F_] rfl rfl (any_of HT_.out (by kernel_rfl)) (fun _ _ _ h => h) (Or.inl ⟨by rfl, ?_⟩) ?_ ?_
                       rotate_left
                       ·intro w'
                        go_simp
                        with_reducible rfl
                       rotate_left
                       ·simp only [Act.put, zA_, zB_, zC_, i64_w, i32_w]
                        rfl
                       refine pure_ (i := 66) (N := some 133) (v := ?_) (a' := ?_) #[T_,T_,T_,T_,T_,T_,T_,T_,T_,T_,T_,T_,T_,T_,T_,T_,T_,T_,T_,T_,T_,T_,T_,T_,T_,T_,T_,T_,T_,T_,T_,T_,T_,T_,T_,T_,T_,T_,T_,T_,T_,T_,T_,T_,T_,T_,T_,T_,T_,T_,T_,T_,T_,T_,T_,T_,T_,T_,T_,T_,T_,T_,T_,T_,T_,T_,T_,F_,F_,F_,F_,F_,F_,F_,F_,F_,F_,F_,F_,F_,F_,F_,F_,F_,F_,F_,F_,F_,F_,F_,F_,F_,F_,F_,F_,F_] rfl rfl (any_of HT_.out (by kernel_rfl)) (fun _ _ _ h => h) (Or.inl ⟨by rfl, ?_⟩) ?_ ?_
                       rotate_left
                       ·intro w'
                        go_simp
                        with_reducible rfl
                       rotate_left
                       ·simp only [Act.put, zA_, zB_, zC_, i64_w, i32_w]
                        rfl
                       refine pure_ (i := 67) (N := some 134) (v := ?_) (a' := ?_) #[T_,T_,T_,T_,T_,T_,T_,T_,T_,T_,T_,T_,T_,T_,T_,T_,T_,T_,T_,T_,T_,T_,T_,T_,T_,T_,T_,T_,T_,T_,T_,T_,T_,T_,T_,T_,T_,T_,T_,T_,T_,T_,T_,T_,T_,T_,T_,T_,T_,T_,T_,T_,T_,T_,T_,T_,T_,T_,T_,T_,T_,T_,T_,T_,T_,T_,T_,T_,F_,F_,F_,F_,F_,F_,F_,F_,F_,F_,F_,F_,F_,F_,F_,F_,F_,F_,F_,F_,F_,F_,F_,F_,F_,F_,F_,F_] rfl rfl (any_of HT_.out (by kernel_rfl)) (fun _ _ _ h => h) (Or.inl ⟨by rfl, ?_⟩) ?_ ?_
                       rotate_left
                       ·intro w'
                        go_simp
                        with_reducible rfl
                       rotate_left
                       ·simp only [Act.put, zA_, zB_, zC_, i64_w, i32_w]
                        rfl
                       refine pure_ (i := 68) (N := some 135) (v := ?_) (a' := ?_) #[T_,T_,T_,T_,T_,T_,T_,T_,T_,T_,T_,T_,T_,T_,T_,T_,T_,T_,T_,T_,T_,T_,T_,T_,T_,T_,T_,T_,T_,T_,T_,T_,T_,T_,T_,T_,T_,T_,T_,T_,T_,T_,T_,T_,T_,T_,T_,T_,T_,T_,T_,T_,T_,T_,T_,T_,T_,T_,T_,T_,T_,T_,T_,T_,T_,T_,T_,T_,T_,F_,F_,F_,F_,F_,F_,F_,F_,F_,F_,F_,F_,F_,F_,F_,F_,F_,F_,F_,F_,F_,F_,F_,F_,F_,F_,F_] rfl rfl (any_of HT_.out (by kernel_rfl)) (fun _ _ _ h => h) (Or.inl ⟨by rfl, ?_⟩) ?_ ?_
                       rotate_left
                       ·intro w'
                        go_simp
                        with_reducible rfl
                       rotate_left
                       ·simp only [Act.put, zA_, zB_, zC_, i64_w, i32_w]
                        rfl
                       refine pure_ (i := 69) (N := some 136) (v := ?_) (a' := ?_) #[T_,T_,T_,T_,T_,T_,T_,T_,T_,T_,T_,T_,T_,T_,T_,T_,T_,T_,T_,T_,T_,T_,T_,T_,T_,T_,T_,T_,T_,T_,T_,T_,T_,T_,T_,T_,T_,T_,T_,T_,T_,T_,T_,T_,T_,T_,T_,T_,T_,T_,T_,T_,T_,T_,T_,T_,T_,T_,T_,T_,T_,T_,T_,T_,T_,T_,T_,T_,T_,T_,F_,F_,F_,F_,F_,F_,F_,F_,F_,F_,F_,F_,F_,F_,F_,F_,F_,F_,F_,F_,F_,F_,F_,F_,F_,F_] rfl rfl (any_of HT_.out (by kernel_rfl)) (fun _ _ _ h => h) (Or.inl ⟨by rfl, ?_⟩) ?_ ?_
                       rotate_left
                       ·intro w'
                        go_simp
                        with_reducible rfl
                       rotate_left
                       ·simp only [Act.put, zA_, zB_, zC_, i64_w, i32_w]
                        rfl
                       refine one_ (i := 70) (N := some 137) #[T_,T_,T_,T_,T_,T_,T_,T_,T_,T_,T_,T_,T_,T_,T_,T_,T_,T_,T_,T_,T_,T_,T_,T_,T_,T_,T_,T_,T_,T_,T_,T_,T_,T_,T_,T_,T_,T_,T_,T_,T_,T_,T_,T_,T_,T_,T_,T_,T_,T_,T_,T_,T_,T_,T_,T_,T_,T_,T_,T_,T_,T_,T_,T_,T_,T_,T_,T_,T_,T_,T_,F_,F_,F_,F_,F_,F_,F_,F_,F_,F_,F_,F_,F_,F_,F_,F_,F_,F_,F_,F_,F_,F_,F_,F_,F_] rfl rfl (one_of HT_.out (by kernel_rfl)) (by decide) (fun K hK => ?_)
                       refine goes_ Try.func23 (by kernel_rfl) rfl #[.pointer (some ⟨gb185, 0, none⟩)] (by rfl) rfl rfl (by (try simp only [List.map_toArray, List.map_cons, List.map_nil]); first | done | rfl | (simp only [List.length_drop, List.length_take]; rfl)) ?_
                       with_reducible refine (header_Counter_Pending.calls gb185 t190 t191 t193 t194 t195 w _ ?side1 ?side2 A89.out).mono ?_
                       (case side1 => repeat (first | (with_reducible first | exact HI185.out | apply IsS50.alloc | apply IsS50.drewN | apply IsS50.drew | apply IsS50.set_0 | apply IsS50.set_1 | refine IsS50.far ?_ NB185_147.out (by (with_reducible repeat (first | apply typed_set | apply typed_alloc | apply typed_drewN | apply typed_drew)); exact typed_of BK147.out (by decide)) _ | refine IsS50.far ?_ NB185_172.out (by (with_reducible repeat (first | apply typed_set | apply typed_alloc | apply typed_drewN | apply typed_drew)); exact typed_of BK172.out (by decide)) _ | refine IsS50.far ?_ NB185_181.out (by (with_reducible repeat (first | apply typed_set | apply typed_alloc | apply typed_drewN | apply typed_drew)); exact typed_of BK181.out (by decide)) _) | exact HI185.out))
                       (case side2 => repeat (first | (with_reducible first | exact HB.out | apply below_alloc | apply pw_below_drewN | apply below_drew1 | refine below_set ?_ (IsS50.ge HI185.out) | refine below_set ?_ GE147.out | refine below_set ?_ GE172.out | refine below_set ?_ GE181.out) | exact HB.out))
                       rintro e w162 ⟨rfl, hi, hb, hk⟩
                       refine ⟨_, rfl, ?_⟩
                       have n0_ := Aside0.mk (Kd.R_mono (Kd.R_keepT (IsS50.apart (show IsS50 w _ gb185 t190 t191 from by repeat (first | (with_reducible first | exact HI185.out | apply IsS50.alloc | apply IsS50.drewN | apply IsS50.drew | apply IsS50.set_0 | apply IsS50.set_1 | refine IsS50.far ?_ NB185_147.out (by (with_reducible repeat (first | apply typed_set | apply typed_alloc | apply typed_drewN | apply typed_drew)); exact typed_of BK147.out (by decide)) _ | refine IsS50.far ?_ NB185_172.out (by (with_reducible repeat (first | apply typed_set | apply typed_alloc | apply typed_drewN | apply typed_drew)); exact typed_of BK172.out (by decide)) _ | refine IsS50.far ?_ NB185_181.out (by (with_reducible repeat (first | apply typed_set | apply typed_alloc | apply typed_drewN | apply typed_drew)); exact typed_of BK181.out (by decide)) _) | exact HI185.out)) (by (with_reducible repeat (first | apply Kd.R_alloc | apply Kd.R_drewN | apply Kd.R_drew)); exact HO138.out) (by decide)) hk (fun _ h => h.2) (by decide)) (fun _ h => h.1))
                       have n1_ := Aside0.mk (Kd.R_mono (Kd.R_keepT (IsS50.apart (show IsS50 w _ gb185 t190 t191 from by repeat (first | (with_reducible first | exact HI185.out | apply IsS50.alloc | apply IsS50.drewN | apply IsS50.drew | apply IsS50.set_0 | apply IsS50.set_1 | refine IsS50.far ?_ NB185_147.out (by (with_reducible repeat (first | apply typed_set | apply typed_alloc | apply typed_drewN | apply typed_drew)); exact typed_of BK147.out (by decide)) _ | refine IsS50.far ?_ NB185_172.out (by (with_reducible repeat (first | apply typed_set | apply typed_alloc | apply typed_drewN | apply typed_drew)); exact typed_of BK172.out (by decide)) _ | refine IsS50.far ?_ NB185_181.out (by (with_reducible repeat (first | apply typed_set | apply typed_alloc | apply typed_drewN | apply typed_drew)); exact typed_of BK181.out (by decide)) _) | exact HI185.out)) (by (with_reducible repeat (first | apply Kd.R_alloc | apply Kd.R_drewN | apply Kd.R_drew)); exact HO145.out) (by decide)) hk (fun _ h => h.2) (by decide)) (fun _ h => h.1))
                       have n2_ := Aside0.mk (KeepT.blk hk (g' := gb147) (o := .cells #[.int .u8 t139, .int .u8 t140, .int .u8 t141, .int .u16 t142] 25 (0, 0)) (by (with_reducible repeat (first | refine blk_drewN ?_ _ | refine blk_drew ?_ | refine blk_alloc ?_ _)); exact BK147.out) NB147_185.out (by simp))
                       have n3_ := Aside0.mk (Kd.R_mono (Kd.R_keepT (IsS50.apart (show IsS50 w _ gb185 t190 t191 from by repeat (first | (with_reducible first | exact HI185.out | apply IsS50.alloc | apply IsS50.drewN | apply IsS50.drew | apply IsS50.set_0 | apply IsS50.set_1 | refine IsS50.far ?_ NB185_147.out (by (with_reducible repeat (first | apply typed_set | apply typed_alloc | apply typed_drewN | apply typed_drew)); exact typed_of BK147.out (by decide)) _ | refine IsS50.far ?_ NB185_172.out (by (with_reducible repeat (first | apply typed_set | apply typed_alloc | apply typed_drewN | apply typed_drew)); exact typed_of BK172.out (by decide)) _ | refine IsS50.far ?_ NB185_181.out (by (with_reducible repeat (first | apply typed_set | apply typed_alloc | apply typed_drewN | apply typed_drew)); exact typed_of BK181.out (by decide)) _) | exact HI185.out)) (by (with_reducible repeat (first | apply Kd.R_alloc | apply Kd.R_drewN | apply Kd.R_drew)); exact HO150.out) (by decide)) hk (fun _ h => h.2) (by decide)) (fun _ h => h.1))
                       have n4_ := Aside0.mk (Kd.R_mono (Kd.R_keepT (IsS50.apart (show IsS50 w _ gb185 t190 t191 from by repeat (first | (with_reducible first | exact HI185.out | apply IsS50.alloc | apply IsS50.drewN | apply IsS50.drew | apply IsS50.set_0 | apply IsS50.set_1 | refine IsS50.far ?_ NB185_147.out (by (with_reducible repeat (first | apply typed_set | apply typed_alloc | apply typed_drewN | apply typed_drew)); exact typed_of BK147.out (by decide)) _ | refine IsS50.far ?_ NB185_172.out (by (with_reducible repeat (first | apply typed_set | apply typed_alloc | apply typed_drewN | apply typed_drew)); exact typed_of BK172.out (by decide)) _ | refine IsS50.far ?_ NB185_181.out (by (with_reducible repeat (first | apply typed_set | apply typed_alloc | apply typed_drewN | apply typed_drew)); exact typed_of BK181.out (by decide)) _) | exact HI185.out)) (by (with_reducible repeat (first | apply Kd.R_alloc | apply Kd.R_drewN | apply Kd.R_drew)); exact HO154.out) (by decide)) hk (fun _ h => h.2) (by decide)) (fun _ h => h.1))
                       have n5_ := Aside0.mk (Kd.R_mono (Kd.R_keepT (IsS50.apart (show IsS50 w _ gb185 t190 t191 from by repeat (first | (with_reducible first | exact HI185.out | apply IsS50.alloc | apply IsS50.drewN | apply IsS50.drew | apply IsS50.set_0 | apply IsS50.set_1 | refine IsS50.far ?_ NB185_147.out (by (with_reducible repeat (first | apply typed_set | apply typed_alloc | apply typed_drewN | apply typed_drew)); exact typed_of BK147.out (by decide)) _ | refine IsS50.far ?_ NB185_172.out (by (with_reducible repeat (first | apply typed_set | apply typed_alloc | apply typed_drewN | apply typed_drew)); exact typed_of BK172.out (by decide)) _ | refine IsS50.far ?_ NB185_181.out (by (with_reducible repeat (first | apply typed_set | apply typed_alloc | apply typed_drewN | apply typed_drew)); exact typed_of BK181.out (by decide)) _) | exact HI185.out)) (by (with_reducible repeat (first | apply Kd.R_alloc | apply Kd.R_drewN | apply Kd.R_drew)); exact HO158.out) (by decide)) hk (fun _ h => h.2) (by decide)) (fun _ h => h.1))
                       have n6_ := Aside0.mk (Kd.R_mono (Kd.R_keepT (IsS50.apart (show IsS50 w _ gb185 t190 t191 from by repeat (first | (with_reducible first | exact HI185.out | apply IsS50.alloc | apply IsS50.drewN | apply IsS50.drew | apply IsS50.set_0 | apply IsS50.set_1 | refine IsS50.far ?_ NB185_147.out (by (with_reducible repeat (first | apply typed_set | apply typed_alloc | apply typed_drewN | apply typed_drew)); exact typed_of BK147.out (by decide)) _ | refine IsS50.far ?_ NB185_172.out (by (with_reducible repeat (first | apply typed_set | apply typed_alloc | apply typed_drewN | apply typed_drew)); exact typed_of BK172.out (by decide)) _ | refine IsS50.far ?_ NB185_181.out (by (with_reducible repeat (first | apply typed_set | apply typed_alloc | apply typed_drewN | apply typed_drew)); exact typed_of BK181.out (by decide)) _) | exact HI185.out)) (by (with_reducible repeat (first | apply Kd.R_alloc | apply Kd.R_drewN | apply Kd.R_drew)); exact HO170.out) (by decide)) hk (fun _ h => h.2) (by decide)) (fun _ h => h.1))
                       have n7_ := Aside0.mk (KeepT.blk hk (g' := gb172) (o := .cells #[.int .u8 t164, .int .u8 t165, .int .u8 t166, .int .u16 t167] 25 (0, 0)) (by (with_reducible repeat (first | refine blk_drewN ?_ _ | refine blk_drew ?_ | refine blk_alloc ?_ _)); exact BK172.out) NB172_185.out (by simp))
                       have n8_ := Aside0.mk (Kd.R_mono (Kd.R_keepT (IsS50.apart (show IsS50 w _ gb185 t190 t191 from by repeat (first | (with_reducible first | exact HI185.out | apply IsS50.alloc | apply IsS50.drewN | apply IsS50.drew | apply IsS50.set_0 | apply IsS50.set_1 | refine IsS50.far ?_ NB185_147.out (by (with_reducible repeat (first | apply typed_set | apply typed_alloc | apply typed_drewN | apply typed_drew)); exact typed_of BK147.out (by decide)) _ | refine IsS50.far ?_ NB185_172.out (by (with_reducible repeat (first | apply typed_set | apply typed_alloc | apply typed_drewN | apply typed_drew)); exact typed_of BK172.out (by decide)) _ | refine IsS50.far ?_ NB185_181.out (by (with_reducible repeat (first | apply typed_set | apply typed_alloc | apply typed_drewN | apply typed_drew)); exact typed_of BK181.out (by decide)) _) | exact HI185.out)) (by (with_reducible repeat (first | apply Kd.R_alloc | apply Kd.R_drewN | apply Kd.R_drew)); exact HO179.out) (by decide)) hk (fun _ h => h.2) (by decide)) (fun _ h => h.1))
                       have n9_ := Aside0.mk (KeepT.blk hk (g' := gb181) (o := .cells #[.int .u8 t173, .int .u8 t174, .int .u8 t175, .int .u16 t176] 25 (0, 0)) (by (with_reducible repeat (first | refine blk_drewN ?_ _ | refine blk_drew ?_ | refine blk_alloc ?_ _)); exact BK181.out) NB181_185.out (by simp))
                       have n10_ := Aside0.mk (hb)
                       have n11_ := Aside0.mk (hi)
                       clear HO138
                       clear HO145
                       clear BK147
                       clear HO150
                       clear HO154
                       clear HO158
                       clear HO170
                       clear BK172
                       clear HO179
                       clear BK181
                       clear HB
                       clear HI185
                       have HO138 := n0_
                       have HO145 := n1_
                       have BK147 := n2_
                       have HO150 := n3_
                       have HO154 := n4_
                       have HO158 := n5_
                       have HO170 := n6_
                       have BK172 := n7_
                       have HO179 := n8_
                       have BK181 := n9_
                       have HB := n10_
                       have HI185 := n11_
                       clear n0_ n1_ n2_ n3_ n4_ n5_ n6_ n7_ n8_ n9_ n10_ n11_
                       (try clear hb)
                       (try clear hb2)
                       (try clear hk)
                       (try clear hi)
                       refine hK.out _ _ ⟨(blk_cell BK147.out 0).trans rfl, (blk_cell BK147.out 1).trans rfl, (blk_cell BK147.out 2).trans rfl, (blk_cell BK147.out 3).trans rfl, Kd.R_mono HO145.out (fun _ _ => trivial), Kd.R_mono HO150.out (fun _ _ => trivial), Kd.R_mono HO154.out (fun _ _ => trivial), Kd.R_mono HO138.out (fun _ _ => trivial)⟩ (fun hHeld => ?_)
                       clear hK K
                       refine norm_ (a' := ?_) ?_ ?_
                       rotate_left
                       ·show Act.put _ (some 137) _ = _
                        simp only [Act.put, zA_, zB_, zC_, i64_w, i32_w]
                        rfl
                       refine pure_ (i := 71) (N := some 138) (v := ?_) (a' := ?_) #[T_,T_,T_,T_,T_,T_,T_,T_,T_,T_,T_,T_,T_,T_,T_,T_,T_,T_,T_,T_,T_,T_,T_,T_,T_,T_,T_,T_,T_,T_,T_,T_,T_,T_,T_,T_,T_,T_,T_,T_,T_,T_,T_,T_,T_,T_,T_,T_,T_,T_,T_,T_,T_,T_,T_,T_,T_,T_,T_,T_,T_,T_,T_,T_,T_,T_,T_,T_,T_,T_,T_,T_,F_,F_,F_,F_,F_,F_,F_,F_,F_,F_,F_,F_,F_,F_,F_,F_,F_,F_,F_,F_,F_,F_,F_,F_] rfl rfl (any_of HT_.out (by kernel_rfl)) (fun _ _ _ h => h) (Or.inl ⟨by rfl, ?_⟩) ?_ ?_
                       rotate_left
                       ·intro w'
                        go_simp
                        with_reducible rfl
                       rotate_left
                       ·simp only [Act.put, zA_, zB_, zC_, i64_w, i32_w]
                        rfl
                       refine pure_ (i := 72) (N := some 139) (v := ?_) (a' := ?_) #[T_,T_,T_,T_,T_,T_,T_,T_,T_,T_,T_,T_,T_,T_,T_,T_,T_,T_,T_,T_,T_,T_,T_,T_,T_,T_,T_,T_,T_,T_,T_,T_,T_,T_,T_,T_,T_,T_,T_,T_,T_,T_,T_,T_,T_,T_,T_,T_,T_,T_,T_,T_,T_,T_,T_,T_,T_,T_,T_,T_,T_,T_,T_,T_,T_,T_,T_,T_,T_,T_,T_,T_,T_,F_,F_,F_,F_,F_,F_,F_,F_,F_,F_,F_,F_,F_,F_,F_,F_,F_,F_,F_,F_,F_,F_,F_] rfl rfl (any_of HT_.out (by kernel_rfl)) (fun _ _ _ h => h) (Or.inl ⟨by rfl, ?_⟩) ?_ ?_
                       rotate_left
                       ·intro w'
                        go_simp
                        with_reducible rfl
                       rotate_left
                       ·simp only [Act.put, zA_, zB_, zC_, i64_w, i32_w]
                        rfl
                       refine pure_ (i := 73) (N := some 140) (v := ?_) (a' := ?_) #[T_,T_,T_,T_,T_,T_,T_,T_,T_,T_,T_,T_,T_,T_,T_,T_,T_,T_,T_,T_,T_,T_,T_,T_,T_,T_,T_,T_,T_,T_,T_,T_,T_,T_,T_,T_,T_,T_,T_,T_,T_,T_,T_,T_,T_,T_,T_,T_,T_,T_,T_,T_,T_,T_,T_,T_,T_,T_,T_,T_,T_,T_,T_,T_,T_,T_,T_,T_,T_,T_,T_,T_,T_,T_,F_,F_,F_,F_,F_,F_,F_,F_,F_,F_,F_,F_,F_,F_,F_,F_,F_,F_,F_,F_,F_,F_] rfl rfl (any_of HT_.out (by kernel_rfl)) (fun _ _ _ h => h) (Or.inl ⟨by rfl, ?_⟩) ?_ ?_
                       rotate_left
                       ·intro w'
                        go_simp
                        with_reducible rfl
                       rotate_left
                       ·simp only [Act.put, zA_, zB_, zC_, i64_w, i32_w]
                        rfl
                       refine one_ (i := 74) (N := some 141) #[T_,T_,T_,T_,T_,T_,T_,T_,T_,T_,T_,T_,T_,T_,T_,T_,T_,T_,T_,T_,T_,T_,T_,T_,T_,T_,T_,T_,T_,T_,T_,T_,T_,T_,T_,T_,T_,T_,T_,T_,T_,T_,T_,T_,T_,T_,T_,T_,T_,T_,T_,T_,T_,T_,T_,T_,T_,T_,T_,T_,T_,T_,T_,T_,T_,T_,T_,T_,T_,T_,T_,T_,T_,T_,T_,F_,F_,F_,F_,F_,F_,F_,F_,F_,F_,F_,F_,F_,F_,F_,F_,F_,F_,F_,F_,F_] rfl rfl (one_of HT_.out (by kernel_rfl)) (by decide) (fun K hK => ?_)
                       refine goes_ Try.func21 (by kernel_rfl) rfl #[.pointer (some ⟨gb185, 0, none⟩), .int .u16 0] (by rfl) rfl rfl (by (try simp only [List.map_toArray, List.map_cons, List.map_nil]); first | done | rfl | (simp only [List.length_drop, List.length_take]; rfl)) ?_
                       with_reducible refine (header_Counter_Got.calls gb185 t194 t195 0 true t197 t198 w _ ?side1 ?side2 A91.out).mono ?_
                       (case side1 => repeat (first | (with_reducible first | exact HI185.out | apply IsS50.alloc | apply IsS50.drewN | apply IsS50.drew | apply IsS50.set_0 | apply IsS50.set_1 | refine IsS50.far ?_ NB185_147.out (by (with_reducible repeat (first | apply typed_set | apply typed_alloc | apply typed_drewN | apply typed_drew)); exact typed_of BK147.out (by decide)) _ | refine IsS50.far ?_ NB185_172.out (by (with_reducible repeat (first | apply typed_set | apply typed_alloc | apply typed_drewN | apply typed_drew)); exact typed_of BK172.out (by decide)) _ | refine IsS50.far ?_ NB185_181.out (by (with_reducible repeat (first | apply typed_set | apply typed_alloc | apply typed_drewN | apply typed_drew)); exact typed_of BK181.out (by decide)) _) | exact HI185.out))
                       (case side2 => repeat (first | (with_reducible first | exact HB.out | apply below_alloc | apply pw_below_drewN | apply below_drew1 | refine below_set ?_ (IsS50.ge HI185.out) | refine below_set ?_ GE147.out | refine below_set ?_ GE172.out | refine below_set ?_ GE181.out) | exact HB.out))
                       rintro e w163 ⟨rfl, hi, hb, hk⟩
                       refine ⟨_, rfl, ?_⟩
                       have n0_ := Aside0.mk (Kd.R_mono (Kd.R_keepT (IsS50.apart (show IsS50 w _ gb185 t194 t195 from by repeat (first | (with_reducible first | exact HI185.out | apply IsS50.alloc | apply IsS50.drewN | apply IsS50.drew | apply IsS50.set_0 | apply IsS50.set_1 | refine IsS50.far ?_ NB185_147.out (by (with_reducible repeat (first | apply typed_set | apply typed_alloc | apply typed_drewN | apply typed_drew)); exact typed_of BK147.out (by decide)) _ | refine IsS50.far ?_ NB185_172.out (by (with_reducible repeat (first | apply typed_set | apply typed_alloc | apply typed_drewN | apply typed_drew)); exact typed_of BK172.out (by decide)) _ | refine IsS50.far ?_ NB185_181.out (by (with_reducible repeat (first | apply typed_set | apply typed_alloc | apply typed_drewN | apply typed_drew)); exact typed_of BK181.out (by decide)) _) | exact HI185.out)) (by (with_reducible repeat (first | apply Kd.R_alloc | apply Kd.R_drewN | apply Kd.R_drew)); exact HO138.out) (by decide)) hk (fun _ h => h.2) (by decide)) (fun _ h => h.1))
                       have n1_ := Aside0.mk (Kd.R_mono (Kd.R_keepT (IsS50.apart (show IsS50 w _ gb185 t194 t195 from by repeat (first | (with_reducible first | exact HI185.out | apply IsS50.alloc | apply IsS50.drewN | apply IsS50.drew | apply IsS50.set_0 | apply IsS50.set_1 | refine IsS50.far ?_ NB185_147.out (by (with_reducible repeat (first | apply typed_set | apply typed_alloc | apply typed_drewN | apply typed_drew)); exact typed_of BK147.out (by decide)) _ | refine IsS50.far ?_ NB185_172.out (by (with_reducible repeat (first | apply typed_set | apply typed_alloc | apply typed_drewN | apply typed_drew)); exact typed_of BK172.out (by decide)) _ | refine IsS50.far ?_ NB185_181.out (by (with_reducible repeat (first | apply typed_set | apply typed_alloc | apply typed_drewN | apply typed_drew)); exact typed_of BK181.out (by decide)) _) | exact HI185.out)) (by (with_reducible repeat (first | apply Kd.R_alloc | apply Kd.R_drewN | apply Kd.R_drew)); exact HO145.out) (by decide)) hk (fun _ h => h.2) (by decide)) (fun _ h => h.1))
                       have n2_ := Aside0.mk (KeepT.blk hk (g' := gb147) (o := .cells #[.int .u8 t139, .int .u8 t140, .int .u8 t141, .int .u16 t142] 25 (0, 0)) (by (with_reducible repeat (first | refine blk_drewN ?_ _ | refine blk_drew ?_ | refine blk_alloc ?_ _)); exact BK147.out) NB147_185.out (by simp))
                       have n3_ := Aside0.mk (Kd.R_mono (Kd.R_keepT (IsS50.apart (show IsS50 w _ gb185 t194 t195 from by repeat (first | (with_reducible first | exact HI185.out | apply IsS50.alloc | apply IsS50.drewN | apply IsS50.drew | apply IsS50.set_0 | apply IsS50.set_1 | refine IsS50.far ?_ NB185_147.out (by (with_reducible repeat (first | apply typed_set | apply typed_alloc | apply typed_drewN | apply typed_drew)); exact typed_of BK147.out (by decide)) _ | refine IsS50.far ?_ NB185_172.out (by (with_reducible repeat (first | apply typed_set | apply typed_alloc | apply typed_drewN | apply typed_drew)); exact typed_of BK172.out (by decide)) _ | refine IsS50.far ?_ NB185_181.out (by (with_reducible repeat (first | apply typed_set | apply typed_alloc | apply typed_drewN | apply typed_drew)); exact typed_of BK181.out (by decide)) _) | exact HI185.out)) (by (with_reducible repeat (first | apply Kd.R_alloc | apply Kd.R_drewN | apply Kd.R_drew)); exact HO150.out) (by decide)) hk (fun _ h => h.2) (by decide)) (fun _ h => h.1))
                       have n4_ := Aside0.mk (Kd.R_mono (Kd.R_keepT (IsS50.apart (show IsS50 w _ gb185 t194 t195 from by repeat (first | (with_reducible first | exact HI185.out | apply IsS50.alloc | apply IsS50.drewN | apply IsS50.drew | apply IsS50.set_0 | apply IsS50.set_1 | refine IsS50.far ?_ NB185_147.out (by (with_reducible repeat (first | apply typed_set | apply typed_alloc | apply typed_drewN | apply typed_drew)); exact typed_of BK147.out (by decide)) _ | refine IsS50.far ?_ NB185_172.out (by (with_reducible repeat (first | apply typed_set | apply typed_alloc | apply typed_drewN | apply typed_drew)); exact typed_of BK172.out (by decide)) _ | refine IsS50.far ?_ NB185_181.out (by (with_reducible repeat (first | apply typed_set | apply typed_alloc | apply typed_drewN | apply typed_drew)); exact typed_of BK181.out (by decide)) _) | exact HI185.out)) (by (with_reducible repeat (first | apply Kd.R_alloc | apply Kd.R_drewN | apply Kd.R_drew)); exact HO154.out) (by decide)) hk (fun _ h => h.2) (by decide)) (fun _ h => h.1))
                       have n5_ := Aside0.mk (Kd.R_mono (Kd.R_keepT (IsS50.apart (show IsS50 w _ gb185 t194 t195 from by repeat (first | (with_reducible first | exact HI185.out | apply IsS50.alloc | apply IsS50.drewN | apply IsS50.drew | apply IsS50.set_0 | apply IsS50.set_1 | refine IsS50.far ?_ NB185_147.out (by (with_reducible repeat (first | apply typed_set | apply typed_alloc | apply typed_drewN | apply typed_drew)); exact typed_of BK147.out (by decide)) _ | refine IsS50.far ?_ NB185_172.out (by (with_reducible repeat (first | apply typed_set | apply typed_alloc | apply typed_drewN | apply typed_drew)); exact typed_of BK172.out (by decide)) _ | refine IsS50.far ?_ NB185_181.out (by (with_reducible repeat (first | apply typed_set | apply typed_alloc | apply typed_drewN | apply typed_drew)); exact typed_of BK181.out (by decide)) _) | exact HI185.out)) (by (with_reducible repeat (first | apply Kd.R_alloc | apply Kd.R_drewN | apply Kd.R_drew)); exact HO158.out) (by decide)) hk (fun _ h => h.2) (by decide)) (fun _ h => h.1))
                       have n6_ := Aside0.mk (Kd.R_mono (Kd.R_keepT (IsS50.apart (show IsS50 w _ gb185 t194 t195 from by repeat (first | (with_reducible first | exact HI185.out | apply IsS50.alloc | apply IsS50.drewN | apply IsS50.drew | apply IsS50.set_0 | apply IsS50.set_1 | refine IsS50.far ?_ NB185_147.out (by (with_reducible repeat (first | apply typed_set | apply typed_alloc | apply typed_drewN | apply typed_drew)); exact typed_of BK147.out (by decide)) _ | refine IsS50.far ?_ NB185_172.out (by (with_reducible repeat (first | apply typed_set | apply typed_alloc | apply typed_drewN | apply typed_drew)); exact typed_of BK172.out (by decide)) _ | refine IsS50.far ?_ NB185_181.out (by (with_reducible repeat (first | apply typed_set | apply typed_alloc | apply typed_drewN | apply typed_drew)); exact typed_of BK181.out (by decide)) _) | exact HI185.out)) (by (with_reducible repeat (first | apply Kd.R_alloc | apply Kd.R_drewN | apply Kd.R_drew)); exact HO170.out) (by decide)) hk (fun _ h => h.2) (by decide)) (fun _ h => h.1))
                       have n7_ := Aside0.mk (KeepT.blk hk (g' := gb172) (o := .cells #[.int .u8 t164, .int .u8 t165, .int .u8 t166, .int .u16 t167] 25 (0, 0)) (by (with_reducible repeat (first | refine blk_drewN ?_ _ | refine blk_drew ?_ | refine blk_alloc ?_ _)); exact BK172.out) NB172_185.out (by simp))
                       have n8_ := Aside0.mk (Kd.R_mono (Kd.R_keepT (IsS50.apart (show IsS50 w _ gb185 t194 t195 from by repeat (first | (with_reducible first | exact HI185.out | apply IsS50.alloc | apply IsS50.drewN | apply IsS50.drew | apply IsS50.set_0 | apply IsS50.set_1 | refine IsS50.far ?_ NB185_147.out (by (with_reducible repeat (first | apply typed_set | apply typed_alloc | apply typed_drewN | apply typed_drew)); exact typed_of BK147.out (by decide)) _ | refine IsS50.far ?_ NB185_172.out (by (with_reducible repeat (first | apply typed_set | apply typed_alloc | apply typed_drewN | apply typed_drew)); exact typed_of BK172.out (by decide)) _ | refine IsS50.far ?_ NB185_181.out (by (with_reducible repeat (first | apply typed_set | apply typed_alloc | apply typed_drewN | apply typed_drew)); exact typed_of BK181.out (by decide)) _) | exact HI185.out)) (by (with_reducible repeat (first | apply Kd.R_alloc | apply Kd.R_drewN | apply Kd.R_drew)); exact HO179.out) (by decide)) hk (fun _ h => h.2) (by decide)) (fun _ h => h.1))
                       have n9_ := Aside0.mk (KeepT.blk hk (g' := gb181) (o := .cells #[.int .u8 t173, .int .u8 t174, .int .u8 t175, .int .u16 t176] 25 (0, 0)) (by (with_reducible repeat (first | refine blk_drewN ?_ _ | refine blk_drew ?_ | refine blk_alloc ?_ _)); exact BK181.out) NB181_185.out (by simp))
                       have n10_ := Aside0.mk (hb)
                       have n11_ := Aside0.mk (hi)
                       clear HO138
                       clear HO145
                       clear BK147
                       clear HO150
                       clear HO154
                       clear HO158
                       clear HO170
                       clear BK172
                       clear HO179
                       clear BK181
                       clear HB
                       clear HI185
                       have HO138 := n0_
                       have HO145 := n1_
                       have BK147 := n2_
                       have HO150 := n3_
                       have HO154 := n4_
                       have HO158 := n5_
                       have HO170 := n6_
                       have BK172 := n7_
                       have HO179 := n8_
                       have BK181 := n9_
                       have HB := n10_
                       have HI185 := n11_
                       clear n0_ n1_ n2_ n3_ n4_ n5_ n6_ n7_ n8_ n9_ n10_ n11_
                       (try clear hb)
                       (try clear hb2)
                       (try clear hk)
                       (try clear hi)
                       refine hK.out _ _ ⟨(blk_cell BK147.out 0).trans rfl, (blk_cell BK147.out 1).trans rfl, (blk_cell BK147.out 2).trans rfl, (blk_cell BK147.out 3).trans rfl, Kd.R_mono HO145.out (fun _ _ => trivial), Kd.R_mono HO150.out (fun _ _ => trivial), Kd.R_mono HO154.out (fun _ _ => trivial), Kd.R_mono HO138.out (fun _ _ => trivial)⟩ (fun hHeld => ?_)
                       clear hK K
                       refine norm_ (a' := ?_) ?_ ?_
                       rotate_left
                       ·show Act.put _ (some 141) _ = _
                        simp only [Act.put, zA_, zB_, zC_, i64_w, i32_w]
                        rfl
                       refine pure_ (i := 75) (N := some 142) (v := ?_) (a' := ?_) #[T_,T_,T_,T_,T_,T_,T_,T_,T_,T_,T_,T_,T_,T_,T_,T_,T_,T_,T_,T_,T_,T_,T_,T_,T_,T_,T_,T_,T_,T_,T_,T_,T_,T_,T_,T_,T_,T_,T_,T_,T_,T_,T_,T_,T_,T_,T_,T_,T_,T_,T_,T_,T_,T_,T_,T_,T_,T_,T_,T_,T_,T_,T_,T_,T_,T_,T_,T_,T_,T_,T_,T_,T_,T_,T_,T_,F_,F_,F_,F_,F_,F_,F_,F_,F_,F_,F_,F_,F_,F_,F_,F_,F_,F_,F_,F_] rfl rfl (any_of HT_.out (by kernel_rfl)) (fun _ _ _ h => h) (Or.inl ⟨by rfl, ?_⟩) ?_ ?_
                       rotate_left
                       ·intro w'
                        go_simp
                        with_reducible rfl
                       rotate_left
                       ·simp only [Act.put, zA_, zB_, zC_, i64_w, i32_w]
                        rfl
                       refine pure_ (i := 76) (N := some 143) (v := ?_) (a' := ?_) #[T_,T_,T_,T_,T_,T_,T_,T_,T_,T_,T_,T_,T_,T_,T_,T_,T_,T_,T_,T_,T_,T_,T_,T_,T_,T_,T_,T_,T_,T_,T_,T_,T_,T_,T_,T_,T_,T_,T_,T_,T_,T_,T_,T_,T_,T_,T_,T_,T_,T_,T_,T_,T_,T_,T_,T_,T_,T_,T_,T_,T_,T_,T_,T_,T_,T_,T_,T_,T_,T_,T_,T_,T_,T_,T_,T_,T_,F_,F_,F_,F_,F_,F_,F_,F_,F_,F_,F_,F_,F_,F_,F_,F_,F_,F_,F_] rfl rfl (any_of HT_.out (by kernel_rfl)) (fun _ _ _ h => h) (Or.inl ⟨by rfl, ?_⟩) ?_ ?_
                       rotate_left
                       ·intro w'
                        go_simp
                        with_reducible rfl
                       rotate_left
                       ·simp only [Act.put, zA_, zB_, zC_, i64_w, i32_w]
                        rfl
                       refine one_ (i := 77) (N := some 144) #[T_,T_,T_,T_,T_,T_,T_,T_,T_,T_,T_,T_,T_,T_,T_,T_,T_,T_,T_,T_,T_,T_,T_,T_,T_,T_,T_,T_,T_,T_,T_,T_,T_,T_,T_,T_,T_,T_,T_,T_,T_,T_,T_,T_,T_,T_,T_,T_,T_,T_,T_,T_,T_,T_,T_,T_,T_,T_,T_,T_,T_,T_,T_,T_,T_,T_,T_,T_,T_,T_,T_,T_,T_,T_,T_,T_,T_,T_,F_,F_,F_,F_,F_,F_,F_,F_,F_,F_,F_,F_,F_,F_,F_,F_,F_,F_] rfl rfl (one_of HT_.out (by kernel_rfl)) (by decide) (fun K hK => ?_)
                       refine goes_ Try.func21 (by kernel_rfl) rfl #[.pointer (some ⟨gb185, 0, none⟩), .int .u16 0] (by rfl) rfl rfl (by (try simp only [List.map_toArray, List.map_cons, List.map_nil]); first | done | rfl | (simp only [List.length_drop, List.length_take]; rfl)) ?_
                       with_reducible refine (header_Counter_Got.calls gb185 t197 t198 0 false t200 t201 w _ ?side1 ?side2 A93.out).mono ?_
                       (case side1 => repeat (first | (with_reducible first | exact HI185.out | apply IsS50.alloc | apply IsS50.drewN | apply IsS50.drew | apply IsS50.set_0 | apply IsS50.set_1 | refine IsS50.far ?_ NB185_147.out (by (with_reducible repeat (first | apply typed_set | apply typed_alloc | apply typed_drewN | apply typed_drew)); exact typed_of BK147.out (by decide)) _ | refine IsS50.far ?_ NB185_172.out (by (with_reducible repeat (first | apply typed_set | apply typed_alloc | apply typed_drewN | apply typed_drew)); exact typed_of BK172.out (by decide)) _ | refine IsS50.far ?_ NB185_181.out (by (with_reducible repeat (first | apply typed_set | apply typed_alloc | apply typed_drewN | apply typed_drew)); exact typed_of BK181.out (by decide)) _) | exact HI185.out))
                       (case side2 => repeat (first | (with_reducible first | exact HB.out | apply below_alloc | apply pw_below_drewN | apply below_drew1 | refine below_set ?_ (IsS50.ge HI185.out) | refine below_set ?_ GE147.out | refine below_set ?_ GE172.out | refine below_set ?_ GE181.out) | exact HB.out))
                       rintro e w164 ⟨rfl, hi, hb, hk⟩
                       refine ⟨_, rfl, ?_⟩
                       have n0_ := Aside0.mk (Kd.R_mono (Kd.R_keepT (IsS50.apart (show IsS50 w _ gb185 t197 t198 from by repeat (first | (with_reducible first | exact HI185.out | apply IsS50.alloc | apply IsS50.drewN | apply IsS50.drew | apply IsS50.set_0 | apply IsS50.set_1 | refine IsS50.far ?_ NB185_147.out (by (with_reducible repeat (first | apply typed_set | apply typed_alloc | apply typed_drewN | apply typed_drew)); exact typed_of BK147.out (by decide)) _ | refine IsS50.far ?_ NB185_172.out (by (with_reducible repeat (first | apply typed_set | apply typed_alloc | apply typed_drewN | apply typed_drew)); exact typed_of BK172.out (by decide)) _ | refine IsS50.far ?_ NB185_181.out (by (with_reducible repeat (first | apply typed_set | apply typed_alloc | apply typed_drewN | apply typed_drew)); exact typed_of BK181.out (by decide)) _) | exact HI185.out)) (by (with_reducible repeat (first | apply Kd.R_alloc | apply Kd.R_drewN | apply Kd.R_drew)); exact HO138.out) (by decide)) hk (fun _ h => h.2) (by decide)) (fun _ h => h.1))
                       have n1_ := Aside0.mk (Kd.R_mono (Kd.R_keepT (IsS50.apart (show IsS50 w _ gb185 t197 t198 from by repeat (first | (with_reducible first | exact HI185.out | apply IsS50.alloc | apply IsS50.drewN | apply IsS50.drew | apply IsS50.set_0 | apply IsS50.set_1 | refine IsS50.far ?_ NB185_147.out (by (with_reducible repeat (first | apply typed_set | apply typed_alloc | apply typed_drewN | apply typed_drew)); exact typed_of BK147.out (by decide)) _ | refine IsS50.far ?_ NB185_172.out (by (with_reducible repeat (first | apply typed_set | apply typed_alloc | apply typed_drewN | apply typed_drew)); exact typed_of BK172.out (by decide)) _ | refine IsS50.far ?_ NB185_181.out (by (with_reducible repeat (first | apply typed_set | apply typed_alloc | apply typed_drewN | apply typed_drew)); exact typed_of BK181.out (by decide)) _) | exact HI185.out)) (by (with_reducible repeat (first | apply Kd.R_alloc | apply Kd.R_drewN | apply Kd.R_drew)); exact HO145.out) (by decide)) hk (fun _ h => h.2) (by decide)) (fun _ h => h.1))
                       have n2_ := Aside0.mk (KeepT.blk hk (g' := gb147) (o := .cells #[.int .u8 t139, .int .u8 t140, .int .u8 t141, .int .u16 t142] 25 (0, 0)) (by (with_reducible repeat (first | refine blk_drewN ?_ _ | refine blk_drew ?_ | refine blk_alloc ?_ _)); exact BK147.out) NB147_185.out (by simp))
                       have n3_ := Aside0.mk (Kd.R_mono (Kd.R_keepT (IsS50.apart (show IsS50 w _ gb185 t197 t198 from by repeat (first | (with_reducible first | exact HI185.out | apply IsS50.alloc | apply IsS50.drewN | apply IsS50.drew | apply IsS50.set_0 | apply IsS50.set_1 | refine IsS50.far ?_ NB185_147.out (by (with_reducible repeat (first | apply typed_set | apply typed_alloc | apply typed_drewN | apply typed_drew)); exact typed_of BK147.out (by decide)) _ | refine IsS50.far ?_ NB185_172.out (by (with_reducible repeat (first | apply typed_set | apply typed_alloc | apply typed_drewN | apply typed_drew)); exact typed_of BK172.out (by decide)) _ | refine IsS50.far ?_ NB185_181.out (by (with_reducible repeat (first | apply typed_set | apply typed_alloc | apply typed_drewN | apply typed_drew)); exact typed_of BK181.out (by decide)) _) | exact HI185.out)) (by (with_reducible repeat (first | apply Kd.R_alloc | apply Kd.R_drewN | apply Kd.R_drew)); exact HO150.out) (by decide)) hk (fun _ h => h.2) (by decide)) (fun _ h => h.1))
                       have n4_ := Aside0.mk (Kd.R_mono (Kd.R_keepT (IsS50.apart (show IsS50 w _ gb185 t197 t198 from by repeat (first | (with_reducible first | exact HI185.out | apply IsS50.alloc | apply IsS50.drewN | apply IsS50.drew | apply IsS50.set_0 | apply IsS50.set_1 | refine IsS50.far ?_ NB185_147.out (by (with_reducible repeat (first | apply typed_set | apply typed_alloc | apply typed_drewN | apply typed_drew)); exact typed_of BK147.out (by decide)) _ | refine IsS50.far ?_ NB185_172.out (by (with_reducible repeat (first | apply typed_set | apply typed_alloc | apply typed_drewN | apply typed_drew)); exact typed_of BK172.out (by decide)) _ | refine IsS50.far ?_ NB185_181.out (by (with_reducible repeat (first | apply typed_set | apply typed_alloc | apply typed_drewN | apply typed_drew)); exact typed_of BK181.out (by decide)) _) | exact HI185.out)) (by (with_reducible repeat (first | apply Kd.R_alloc | apply Kd.R_drewN | apply Kd.R_drew)); exact HO154.out) (by decide)) hk (fun _ h => h.2) (by decide)) (fun _ h => h.1))
                       have n5_ := Aside0.mk (Kd.R_mono (Kd.R_keepT (IsS50.apart (show IsS50 w _ gb185 t197 t198 from by repeat (first | (with_reducible first | exact HI185.out | apply IsS50.alloc | apply IsS50.drewN | apply IsS50.drew | apply IsS50.set_0 | apply IsS50.set_1 | refine IsS50.far ?_ NB185_147.out (by (with_reducible repeat (first | apply typed_set | apply typed_alloc | apply typed_drewN | apply typed_drew)); exact typed_of BK147.out (by decide)) _ | refine IsS50.far ?_ NB185_172.out (by (with_reducible repeat (first | apply typed_set | apply typed_alloc | apply typed_drewN | apply typed_drew)); exact typed_of BK172.out (by decide)) _ | refine IsS50.far ?_ NB185_181.out (by (with_reducible repeat (first | apply typed_set | apply typed_alloc | apply typed_drewN | apply typed_drew)); exact typed_of BK181.out (by decide)) _) | exact HI185.out)) (by (with_reducible repeat (first | apply Kd.R_alloc | apply Kd.R_drewN | apply Kd.R_drew)); exact HO158.out) (by decide)) hk (fun _ h => h.2) (by decide)) (fun _ h => h.1))
                       have n6_ := Aside0.mk (Kd.R_mono (Kd.R_keepT (IsS50.apart (show IsS50 w _ gb185 t197 t198 from by repeat (first | (with_reducible first | exact HI185.out | apply IsS50.alloc | apply IsS50.drewN | apply IsS50.drew | apply IsS50.set_0 | apply IsS50.set_1 | refine IsS50.far ?_ NB185_147.out (by (with_reducible repeat (first | apply typed_set | apply typed_alloc | apply typed_drewN | apply typed_drew)); exact typed_of BK147.out (by decide)) _ | refine IsS50.far ?_ NB185_172.out (by (with_reducible repeat (first | apply typed_set | apply typed_alloc | apply typed_drewN | apply typed_drew)); exact typed_of BK172.out (by decide)) _ | refine IsS50.far ?_ NB185_181.out (by (with_reducible repeat (first | apply typed_set | apply typed_alloc | apply typed_drewN | apply typed_drew)); exact typed_of BK181.out (by decide)) _) | exact HI185.out)) (by (with_reducible repeat (first | apply Kd.R_alloc | apply Kd.R_drewN | apply Kd.R_drew)); exact HO170.out) (by decide)) hk (fun _ h => h.2) (by decide)) (fun _ h => h.1))
                       have n7_ := Aside0.mk (KeepT.blk hk (g' := gb172) (o := .cells #[.int .u8 t164, .int .u8 t165, .int .u8 t166, .int .u16 t167] 25 (0, 0)) (by (with_reducible repeat (first | refine blk_drewN ?_ _ | refine blk_drew ?_ | refine blk_alloc ?_ _)); exact BK172.out) NB172_185.out (by simp))
                       have n8_ := Aside0.mk (Kd.R_mono (Kd.R_keepT (IsS50.apart (show IsS50 w _ gb185 t197 t198 from by repeat (first | (with_reducible first | exact HI185.out | apply IsS50.alloc | apply IsS50.drewN | apply IsS50.drew | apply IsS50.set_0 | apply IsS50.set_1 | refine IsS50.far ?_ NB185_147.out (by (with_reducible repeat (first | apply typed_set | apply typed_alloc | apply typed_drewN | apply typed_drew)); exact typed_of BK147.out (by decide)) _ | refine IsS50.far ?_ NB185_172.out (by (with_reducible repeat (first | apply typed_set | apply typed_alloc | apply typed_drewN | apply typed_drew)); exact typed_of BK172.out (by decide)) _ | refine IsS50.far ?_ NB185_181.out (by (with_reducible repeat (first | apply typed_set | apply typed_alloc | apply typed_drewN | apply typed_drew)); exact typed_of BK181.out (by decide)) _) | exact HI185.out)) (by (with_reducible repeat (first | apply Kd.R_alloc | apply Kd.R_drewN | apply Kd.R_drew)); exact HO179.out) (by decide)) hk (fun _ h => h.2) (by decide)) (fun _ h => h.1))
                       have n9_ := Aside0.mk (KeepT.blk hk (g' := gb181) (o := .cells #[.int .u8 t173, .int .u8 t174, .int .u8 t175, .int .u16 t176] 25 (0, 0)) (by (with_reducible repeat (first | refine blk_drewN ?_ _ | refine blk_drew ?_ | refine blk_alloc ?_ _)); exact BK181.out) NB181_185.out (by simp))
                       have n10_ := Aside0.mk (hb)
                       have n11_ := Aside0.mk (hi)
                       clear HO138
                       clear HO145
                       clear BK147
                       clear HO150
                       clear HO154
                       clear HO158
                       clear HO170
                       clear BK172
                       clear HO179
                       clear BK181
                       clear HB
                       clear HI185
                       have HO138 := n0_
                       have HO145 := n1_
                       have BK147 := n2_
                       have HO150 := n3_
                       have HO154 := n4_
                       have HO158 := n5_
                       have HO170 := n6_
                       have BK172 := n7_
                       have HO179 := n8_
                       have BK181 := n9_
                       have HB := n10_
                       have HI185 := n11_
                       clear n0_ n1_ n2_ n3_ n4_ n5_ n6_ n7_ n8_ n9_ n10_ n11_
                       (try clear hb)
                       (try clear hb2)
                       (try clear hk)
                       (try clear hi)
                       refine hK.out _ _ ⟨(blk_cell BK147.out 0).trans rfl, (blk_cell BK147.out 1).trans rfl, (blk_cell BK147.out 2).trans rfl, (blk_cell BK147.out 3).trans rfl, Kd.R_mono HO145.out (fun _ _ => trivial), Kd.R_mono HO150.out (fun _ _ => trivial), Kd.R_mono HO154.out (fun _ _ => trivial), Kd.R_mono HO138.out (fun _ _ => trivial)⟩ (fun hHeld => ?_)
                       clear hK K
                       refine norm_ (a' := ?_) ?_ ?_
                       rotate_left
                       ·show Act.put _ (some 144) _ = _
                        simp only [Act.put, zA_, zB_, zC_, i64_w, i32_w]
                        rfl
                       refine pure_ (i := 78) (N := some 145) (v := ?_) (a' := ?_) #[T_,T_,T_,T_,T_,T_,T_,T_,T_,T_,T_,T_,T_,T_,T_,T_,T_,T_,T_,T_,T_,T_,T_,T_,T_,T_,T_,T_,T_,T_,T_,T_,T_,T_,T_,T_,T_,T_,T_,T_,T_,T_,T_,T_,T_,T_,T_,T_,T_,T_,T_,T_,T_,T_,T_,T_,T_,T_,T_,T_,T_,T_,T_,T_,T_,T_,T_,T_,T_,T_,T_,T_,T_,T_,T_,T_,T_,T_,T_,F_,F_,F_,F_,F_,F_,F_,F_,F_,F_,F_,F_,F_,F_,F_,F_,F_] rfl rfl (any_of HT_.out (by kernel_rfl)) (fun _ _ _ h => h) (Or.inl ⟨by rfl, ?_⟩) ?_ ?_
                       rotate_left
                       ·intro w'
                        go_simp
                        with_reducible rfl
                       rotate_left
                       ·simp only [Act.put, zA_, zB_, zC_, i64_w, i32_w]
                        rfl
                       refine pure_ (i := 79) (N := some 146) (v := ?_) (a' := ?_) #[T_,T_,T_,T_,T_,T_,T_,T_,T_,T_,T_,T_,T_,T_,T_,T_,T_,T_,T_,T_,T_,T_,T_,T_,T_,T_,T_,T_,T_,T_,T_,T_,T_,T_,T_,T_,T_,T_,T_,T_,T_,T_,T_,T_,T_,T_,T_,T_,T_,T_,T_,T_,T_,T_,T_,T_,T_,T_,T_,T_,T_,T_,T_,T_,T_,T_,T_,T_,T_,T_,T_,T_,T_,T_,T_,T_,T_,T_,T_,T_,F_,F_,F_,F_,F_,F_,F_,F_,F_,F_,F_,F_,F_,F_,F_,F_] rfl rfl (any_of HT_.out (by kernel_rfl)) (fun _ _ _ h => h) (Or.inl ⟨by rfl, ?_⟩) ?_ ?_
                       rotate_left
                       ·intro w'
                        go_simp
                        with_reducible rfl
                       rotate_left
                       ·simp only [Act.put, zA_, zB_, zC_, i64_w, i32_w]
                        rfl
                       refine pure_ (i := 80) (N := some 147) (v := ?_) (a' := ?_) #[T_,T_,T_,T_,T_,T_,T_,T_,T_,T_,T_,T_,T_,T_,T_,T_,T_,T_,T_,T_,T_,T_,T_,T_,T_,T_,T_,T_,T_,T_,T_,T_,T_,T_,T_,T_,T_,T_,T_,T_,T_,T_,T_,T_,T_,T_,T_,T_,T_,T_,T_,T_,T_,T_,T_,T_,T_,T_,T_,T_,T_,T_,T_,T_,T_,T_,T_,T_,T_,T_,T_,T_,T_,T_,T_,T_,T_,T_,T_,T_,T_,F_,F_,F_,F_,F_,F_,F_,F_,F_,F_,F_,F_,F_,F_,F_] rfl rfl (any_of HT_.out (by kernel_rfl)) (fun _ _ _ h => h) (Or.inl ⟨by rfl, ?_⟩) ?_ ?_
                       rotate_left
                       ·intro w'
                        go_simp
                        with_reducible rfl
                       rotate_left
                       ·simp only [Act.put, zA_, zB_, zC_, i64_w, i32_w]
                        rfl
                       refine one_ (i := 81) (N := some 148) #[T_,T_,T_,T_,T_,T_,T_,T_,T_,T_,T_,T_,T_,T_,T_,T_,T_,T_,T_,T_,T_,T_,T_,T_,T_,T_,T_,T_,T_,T_,T_,T_,T_,T_,T_,T_,T_,T_,T_,T_,T_,T_,T_,T_,T_,T_,T_,T_,T_,T_,T_,T_,T_,T_,T_,T_,T_,T_,T_,T_,T_,T_,T_,T_,T_,T_,T_,T_,T_,T_,T_,T_,T_,T_,T_,T_,T_,T_,T_,T_,T_,T_,F_,F_,F_,F_,F_,F_,F_,F_,F_,F_,F_,F_,F_,F_] rfl rfl (one_of HT_.out (by kernel_rfl)) (by decide) (fun K hK => ?_)
                       refine goes_ Try.func23 (by kernel_rfl) rfl #[.pointer (some ⟨gb185, 0, none⟩)] (by rfl) rfl rfl (by (try simp only [List.map_toArray, List.map_cons, List.map_nil]); first | done | rfl | (simp only [List.length_drop, List.length_take]; rfl)) ?_
                       with_reducible refine (header_Counter_Pending.calls gb185 t200 t201 t202 t203 t204 w _ ?side1 ?side2 A128.out).mono ?_
                       (case side1 => repeat (first | (with_reducible first | exact HI185.out | apply IsS50.alloc | apply IsS50.drewN | apply IsS50.drew | apply IsS50.set_0 | apply IsS50.set_1 | refine IsS50.far ?_ NB185_147.out (by (with_reducible repeat (first | apply typed_set | apply typed_alloc | apply typed_drewN | apply typed_drew)); exact typed_of BK147.out (by decide)) _ | refine IsS50.far ?_ NB185_172.out (by (with_reducible repeat (first | apply typed_set | apply typed_alloc | apply typed_drewN | apply typed_drew)); exact typed_of BK172.out (by decide)) _ | refine IsS50.far ?_ NB185_181.out (by (with_reducible repeat (first | apply typed_set | apply typed_alloc | apply typed_drewN | apply typed_drew)); exact typed_of BK181.out (by decide)) _) | exact HI185.out))
                       (case side2 => repeat (first | (with_reducible first | exact HB.out | apply below_alloc | apply pw_below_drewN | apply below_drew1 | refine below_set ?_ (IsS50.ge HI185.out) | refine below_set ?_ GE147.out | refine below_set ?_ GE172.out | refine below_set ?_ GE181.out) | exact HB.out))
                       rintro e w165 ⟨rfl, hi, hb, hk⟩
                       refine ⟨_, rfl, ?_⟩
                       have n0_ := Aside0.mk (Kd.R_mono (Kd.R_keepT (IsS50.apart (show IsS50 w _ gb185 t200 t201 from by repeat (first | (with_reducible first | exact HI185.out | apply IsS50.alloc | apply IsS50.drewN | apply IsS50.drew | apply IsS50.set_0 | apply IsS50.set_1 | refine IsS50.far ?_ NB185_147.out (by (with_reducible repeat (first | apply typed_set | apply typed_alloc | apply typed_drewN | apply typed_drew)); exact typed_of BK147.out (by decide)) _ | refine IsS50.far ?_ NB185_172.out (by (with_reducible repeat (first | apply typed_set | apply typed_alloc | apply typed_drewN | apply typed_drew)); exact typed_of BK172.out (by decide)) _ | refine IsS50.far ?_ NB185_181.out (by (with_reducible repeat (first | apply typed_set | apply typed_alloc | apply typed_drewN | apply typed_drew)); exact typed_of BK181.out (by decide)) _) | exact HI185.out)) (by (with_reducible repeat (first | apply Kd.R_alloc | apply Kd.R_drewN | apply Kd.R_drew)); exact HO138.out) (by decide)) hk (fun _ h => h.2) (by decide)) (fun _ h => h.1))
                       have n1_ := Aside0.mk (Kd.R_mono (Kd.R_keepT (IsS50.apart (show IsS50 w _ gb185 t200 t201 from by repeat (first | (with_reducible first | exact HI185.out | apply IsS50.alloc | apply IsS50.drewN | apply IsS50.drew | apply IsS50.set_0 | apply IsS50.set_1 | refine IsS50.far ?_ NB185_147.out (by (with_reducible repeat (first | apply typed_set | apply typed_alloc | apply typed_drewN | apply typed_drew)); exact typed_of BK147.out (by decide)) _ | refine IsS50.far ?_ NB185_172.out (by (with_reducible repeat (first | apply typed_set | apply typed_alloc | apply typed_drewN | apply typed_drew)); exact typed_of BK172.out (by decide)) _ | refine IsS50.far ?_ NB185_181.out (by (with_reducible repeat (first | apply typed_set | apply typed_alloc | apply typed_drewN | apply typed_drew)); exact typed_of BK181.out (by decide)) _) | exact HI185.out)) (by (with_reducible repeat (first | apply Kd.R_alloc | apply Kd.R_drewN | apply Kd.R_drew)); exact HO145.out) (by decide)) hk (fun _ h => h.2) (by decide)) (fun _ h => h.1))
                       have n2_ := Aside0.mk (KeepT.blk hk (g' := gb147) (o := .cells #[.int .u8 t139, .int .u8 t140, .int .u8 t141, .int .u16 t142] 25 (0, 0)) (by (with_reducible repeat (first | refine blk_drewN ?_ _ | refine blk_drew ?_ | refine blk_alloc ?_ _)); exact BK147.out) NB147_185.out (by simp))
                       have n3_ := Aside0.mk (Kd.R_mono (Kd.R_keepT (IsS50.apart (show IsS50 w _ gb185 t200 t201 from by repeat (first | (with_reducible first | exact HI185.out | apply IsS50.alloc | apply IsS50.drewN | apply IsS50.drew | apply IsS50.set_0 | apply IsS50.set_1 | refine IsS50.far ?_ NB185_147.out (by (with_reducible repeat (first | apply typed_set | apply typed_alloc | apply typed_drewN | apply typed_drew)); exact typed_of BK147.out (by decide)) _ | refine IsS50.far ?_ NB185_172.out (by (with_reducible repeat (first | apply typed_set | apply typed_alloc | apply typed_drewN | apply typed_drew)); exact typed_of BK172.out (by decide)) _ | refine IsS50.far ?_ NB185_181.out (by (with_reducible repeat (first | apply typed_set | apply typed_alloc | apply typed_drewN | apply typed_drew)); exact typed_of BK181.out (by decide)) _) | exact HI185.out)) (by (with_reducible repeat (first | apply Kd.R_alloc | apply Kd.R_drewN | apply Kd.R_drew)); exact HO150.out) (by decide)) hk (fun _ h => h.2) (by decide)) (fun _ h => h.1))
                       have n4_ := Aside0.mk (Kd.R_mono (Kd.R_keepT (IsS50.apart (show IsS50 w _ gb185 t200 t201 from by repeat (first | (with_reducible first | exact HI185.out | apply IsS50.alloc | apply IsS50.drewN | apply IsS50.drew | apply IsS50.set_0 | apply IsS50.set_1 | refine IsS50.far ?_ NB185_147.out (by (with_reducible repeat (first | apply typed_set | apply typed_alloc | apply typed_drewN | apply typed_drew)); exact typed_of BK147.out (by decide)) _ | refine IsS50.far ?_ NB185_172.out (by (with_reducible repeat (first | apply typed_set | apply typed_alloc | apply typed_drewN | apply typed_drew)); exact typed_of BK172.out (by decide)) _ | refine IsS50.far ?_ NB185_181.out (by (with_reducible repeat (first | apply typed_set | apply typed_alloc | apply typed_drewN | apply typed_drew)); exact typed_of BK181.out (by decide)) _) | exact HI185.out)) (by (with_reducible repeat (first | apply Kd.R_alloc | apply Kd.R_drewN | apply Kd.R_drew)); exact HO154.out) (by decide)) hk (fun _ h => h.2) (by decide)) (fun _ h => h.1))
                       have n5_ := Aside0.mk (Kd.R_mono (Kd.R_keepT (IsS50.apart (show IsS50 w _ gb185 t200 t201 from by repeat (first | (with_reducible first | exact HI185.out | apply IsS50.alloc | apply IsS50.drewN | apply IsS50.drew | apply IsS50.set_0 | apply IsS50.set_1 | refine IsS50.far ?_ NB185_147.out (by (with_reducible repeat (first | apply typed_set | apply typed_alloc | apply typed_drewN | apply typed_drew)); exact typed_of BK147.out (by decide)) _ | refine IsS50.far ?_ NB185_172.out (by (with_reducible repeat (first | apply typed_set | apply typed_alloc | apply typed_drewN | apply typed_drew)); exact typed_of BK172.out (by decide)) _ | refine IsS50.far ?_ NB185_181.out (by (with_reducible repeat (first | apply typed_set | apply typed_alloc | apply typed_drewN | apply typed_drew)); exact typed_of BK181.out (by decide)) _) | exact HI185.out)) (by (with_reducible repeat (first | apply Kd.R_alloc | apply Kd.R_drewN | apply Kd.R_drew)); exact HO158.out) (by decide)) hk (fun _ h => h.2) (by decide)) (fun _ h => h.1))
                       have n6_ := Aside0.mk (Kd.R_mono (Kd.R_keepT (IsS50.apart (show IsS50 w _ gb185 t200 t201 from by repeat (first | (with_reducible first | exact HI185.out | apply IsS50.alloc | apply IsS50.drewN | apply IsS50.drew | apply IsS50.set_0 | apply IsS50.set_1 | refine IsS50.far ?_ NB185_147.out (by (with_reducible repeat (first | apply typed_set | apply typed_alloc | apply typed_drewN | apply typed_drew)); exact typed_of BK147.out (by decide)) _ | refine IsS50.far ?_ NB185_172.out (by (with_reducible repeat (first | apply typed_set | apply typed_alloc | apply typed_drewN | apply typed_drew)); exact typed_of BK172.out (by decide)) _ | refine IsS50.far ?_ NB185_181.out (by (with_reducible repeat (first | apply typed_set | apply typed_alloc | apply typed_drewN | apply typed_drew)); exact typed_of BK181.out (by decide)) _) | exact HI185.out)) (by (with_reducible repeat (first | apply Kd.R_alloc | apply Kd.R_drewN | apply Kd.R_drew)); exact HO170.out) (by decide)) hk (fun _ h => h.2) (by decide)) (fun _ h => h.1))
                       have n7_ := Aside0.mk (KeepT.blk hk (g' := gb172) (o := .cells #[.int .u8 t164, .int .u8 t165, .int .u8 t166, .int .u16 t167] 25 (0, 0)) (by (with_reducible repeat (first | refine blk_drewN ?_ _ | refine blk_drew ?_ | refine blk_alloc ?_ _)); exact BK172.out) NB172_185.out (by simp))
                       have n8_ := Aside0.mk (Kd.R_mono (Kd.R_keepT (IsS50.apart (show IsS50 w _ gb185 t200 t201 from by repeat (first | (with_reducible first | exact HI185.out | apply IsS50.alloc | apply IsS50.drewN | apply IsS50.drew | apply IsS50.set_0 | apply IsS50.set_1 | refine IsS50.far ?_ NB185_147.out (by (with_reducible repeat (first | apply typed_set | apply typed_alloc | apply typed_drewN | apply typed_drew)); exact typed_of BK147.out (by decide)) _ | refine IsS50.far ?_ NB185_172.out (by (with_reducible repeat (first | apply typed_set | apply typed_alloc | apply typed_drewN | apply typed_drew)); exact typed_of BK172.out (by decide)) _ | refine IsS50.far ?_ NB185_181.out (by (with_reducible repeat (first | apply typed_set | apply typed_alloc | apply typed_drewN | apply typed_drew)); exact typed_of BK181.out (by decide)) _) | exact HI185.out)) (by (with_reducible repeat (first | apply Kd.R_alloc | apply Kd.R_drewN | apply Kd.R_drew)); exact HO179.out) (by decide)) hk (fun _ h => h.2) (by decide)) (fun _ h => h.1))
                       have n9_ := Aside0.mk (KeepT.blk hk (g' := gb181) (o := .cells #[.int .u8 t173, .int .u8 t174, .int .u8 t175, .int .u16 t176] 25 (0, 0)) (by (with_reducible repeat (first | refine blk_drewN ?_ _ | refine blk_drew ?_ | refine blk_alloc ?_ _)); exact BK181.out) NB181_185.out (by simp))
                       have n10_ := Aside0.mk (hb)
                       have n11_ := Aside0.mk (hi)
                       clear HO138
                       clear HO145
                       clear BK147
                       clear HO150
                       clear HO154
                       clear HO158
                       clear HO170
                       clear BK172
                       clear HO179
                       clear BK181
                       clear HB
                       clear HI185
                       have HO138 := n0_
                       have HO145 := n1_
                       have BK147 := n2_
                       have HO150 := n3_
                       have HO154 := n4_
                       have HO158 := n5_
                       have HO170 := n6_
                       have BK172 := n7_
                       have HO179 := n8_
                       have BK181 := n9_
                       have HB := n10_
                       have HI185 := n11_
                       clear n0_ n1_ n2_ n3_ n4_ n5_ n6_ n7_ n8_ n9_ n10_ n11_
                       (try clear hb)
                       (try clear hb2)
                       (try clear hk)
                       (try clear hi)
                       refine hK.out _ _ ⟨(blk_cell BK147.out 0).trans rfl, (blk_cell BK147.out 1).trans rfl, (blk_cell BK147.out 2).trans rfl, (blk_cell BK147.out 3).trans rfl, Kd.R_mono HO145.out (fun _ _ => trivial), Kd.R_mono HO150.out (fun _ _ => trivial), Kd.R_mono HO154.out (fun _ _ => trivial), Kd.R_mono HO138.out (fun _ _ => trivial)⟩ (fun hHeld => ?_)
                       clear hK K
                       refine norm_ (a' := ?_) ?_ ?_
                       rotate_left
                       ·show Act.put _ (some 148) _ = _
                        simp only [Act.put, zA_, zB_, zC_, i64_w, i32_w]
                        rfl
                       refine pure_ (i := 82) (N := some 149) (v := ?_) (a' := ?_) #[T_,T_,T_,T_,T_,T_,T_,T_,T_,T_,T_,T_,T_,T_,T_,T_,T_,T_,T_,T_,T_,T_,T_,T_,T_,T_,T_,T_,T_,T_,T_,T_,T_,T_,T_,T_,T_,T_,T_,T_,T_,T_,T_,T_,T_,T_,T_,T_,T_,T_,T_,T_,T_,T_,T_,T_,T_,T_,T_,T_,T_,T_,T_,T_,T_,T_,T_,T_,T_,T_,T_,T_,T_,T_,T_,T_,T_,T_,T_,T_,T_,T_,T_,F_,F_,F_,F_,F_,F_,F_,F_,F_,F_,F_,F_,F_] rfl rfl (any_of HT_.out (by kernel_rfl)) (fun _ _ _ h => h) (Or.inl ⟨by rfl, ?_⟩) ?_ ?_
                       rotate_left
                       ·intro w'
                        go_simp
                        with_reducible rfl
                       rotate_left
                       ·simp only [Act.put, zA_, zB_, zC_, i64_w, i32_w]
                        rfl
                       refine pure_ (i := 83) (N := some 150) (v := ?_) (a' := ?_) #[T_,T_,T_,T_,T_,T_,T_,T_,T_,T_,T_,T_,T_,T_,T_,T_,T_,T_,T_,T_,T_,T_,T_,T_,T_,T_,T_,T_,T_,T_,T_,T_,T_,T_,T_,T_,T_,T_,T_,T_,T_,T_,T_,T_,T_,T_,T_,T_,T_,T_,T_,T_,T_,T_,T_,T_,T_,T_,T_,T_,T_,T_,T_,T_,T_,T_,T_,T_,T_,T_,T_,T_,T_,T_,T_,T_,T_,T_,T_,T_,T_,T_,T_,T_,F_,F_,F_,F_,F_,F_,F_,F_,F_,F_,F_,F_] rfl rfl (any_of HT_.out (by kernel_rfl)) (fun _ _ _ h => h) (Or.inl ⟨by rfl, ?_⟩) ?_ ?_
                       rotate_left
                       ·intro w'
                        go_simp
                        with_reducible rfl
                       rotate_left
                       ·simp only [Act.put, zA_, zB_, zC_, i64_w, i32_w]
                        rfl
                       refine pure_ (i := 84) (N := some 151) (v := ?_) (a' := ?_) #[T_,T_,T_,T_,T_,T_,T_,T_,T_,T_,T_,T_,T_,T_,T_,T_,T_,T_,T_,T_,T_,T_,T_,T_,T_,T_,T_,T_,T_,T_,T_,T_,T_,T_,T_,T_,T_,T_,T_,T_,T_,T_,T_,T_,T_,T_,T_,T_,T_,T_,T_,T_,T_,T_,T_,T_,T_,T_,T_,T_,T_,T_,T_,T_,T_,T_,T_,T_,T_,T_,T_,T_,T_,T_,T_,T_,T_,T_,T_,T_,T_,T_,T_,T_,T_,F_,F_,F_,F_,F_,F_,F_,F_,F_,F_,F_] rfl rfl (any_of HT_.out (by kernel_rfl)) (fun _ _ _ h => h) (Or.inl ⟨by rfl, ?_⟩) ?_ ?_
                       rotate_left
                       ·intro w'
                        go_simp
                        with_reducible rfl
                       rotate_left
                       ·simp only [Act.put, zA_, zB_, zC_, i64_w, i32_w]
                        rfl
                       refine pure_ (i := 85) (N := some 152) (v := ?_) (a' := ?_) #[T_,T_,T_,T_,T_,T_,T_,T_,T_,T_,T_,T_,T_,T_,T_,T_,T_,T_,T_,T_,T_,T_,T_,T_,T_,T_,T_,T_,T_,T_,T_,T_,T_,T_,T_,T_,T_,T_,T_,T_,T_,T_,T_,T_,T_,T_,T_,T_,T_,T_,T_,T_,T_,T_,T_,T_,T_,T_,T_,T_,T_,T_,T_,T_,T_,T_,T_,T_,T_,T_,T_,T_,T_,T_,T_,T_,T_,T_,T_,T_,T_,T_,T_,T_,T_,T_,F_,F_,F_,F_,F_,F_,F_,F_,F_,F_] rfl rfl (any_of HT_.out (by kernel_rfl)) (fun _ _ _ h => h) (Or.inl ⟨by rfl, ?_⟩) ?_ ?_
                       rotate_left
                       ·intro w'
                        go_simp
                        with_reducible rfl
                       rotate_left
                       ·simp only [Act.put, zA_, zB_, zC_, i64_w, i32_w]
                        rfl
                       refine pure_ (i := 86) (N := some 153) (v := ?_) (a' := ?_) #[T_,T_,T_,T_,T_,T_,T_,T_,T_,T_,T_,T_,T_,T_,T_,T_,T_,T_,T_,T_,T_,T_,T_,T_,T_,T_,T_,T_,T_,T_,T_,T_,T_,T_,T_,T_,T_,T_,T_,T_,T_,T_,T_,T_,T_,T_,T_,T_,T_,T_,T_,T_,T_,T_,T_,T_,T_,T_,T_,T_,T_,T_,T_,T_,T_,T_,T_,T_,T_,T_,T_,T_,T_,T_,T_,T_,T_,T_,T_,T_,T_,T_,T_,T_,T_,T_,T_,F_,F_,F_,F_,F_,F_,F_,F_,F_] rfl rfl (any_of HT_.out (by kernel_rfl)) (fun _ _ _ h => h) (Or.inl ⟨by rfl, ?_⟩) ?_ ?_
                       rotate_left
                       ·intro w'
                        go_simp
                        with_reducible rfl
                       rotate_left
                       ·simp only [Act.put, zA_, zB_, zC_, i64_w, i32_w]
                        rfl
                       refine pure_ (i := 88) (N := some 155) (v := ?_) (a' := ?_) #[T_,T_,T_,T_,T_,T_,T_,T_,T_,T_,T_,T_,T_,T_,T_,T_,T_,T_,T_,T_,T_,T_,T_,T_,T_,T_,T_,T_,T_,T_,T_,T_,T_,T_,T_,T_,T_,T_,T_,T_,T_,T_,T_,T_,T_,T_,T_,T_,T_,T_,T_,T_,T_,T_,T_,T_,T_,T_,T_,T_,T_,T_,T_,T_,T_,T_,T_,T_,T_,T_,T_,T_,T_,T_,T_,T_,T_,T_,T_,T_,T_,T_,T_,T_,T_,T_,T_,F_,T_,F_,F_,F_,F_,F_,F_,F_] rfl rfl (any_of HT_.out (by kernel_rfl)) (fun _ _ _ h => h) (Or.inl ⟨by rfl, ?_⟩) ?_ ?_
                       rotate_left
                       ·intro w'
                        go_simp
                        with_reducible rfl
                       rotate_left
                       ·simp only [Act.put, zA_, zB_, zC_, i64_w, i32_w]
                        rfl
                       refine pure_ (i := 91) (N := some 158) (v := ?_) (a' := ?_) #[T_,T_,T_,T_,T_,T_,T_,T_,T_,T_,T_,T_,T_,T_,T_,T_,T_,T_,T_,T_,T_,T_,T_,T_,T_,T_,T_,T_,T_,T_,T_,T_,T_,T_,T_,T_,T_,T_,T_,T_,T_,T_,T_,T_,T_,T_,T_,T_,T_,T_,T_,T_,T_,T_,T_,T_,T_,T_,T_,T_,T_,T_,T_,T_,T_,T_,T_,T_,T_,T_,T_,T_,T_,T_,T_,T_,T_,T_,T_,T_,T_,T_,T_,T_,T_,T_,T_,F_,T_,F_,F_,T_,F_,F_,F_,F_] rfl rfl (any_of HT_.out (by kernel_rfl)) (fun _ _ _ h => h) (Or.inl ⟨by rfl, ?_⟩) ?_ ?_
                       rotate_left
                       ·intro w'
                        go_simp
                        with_reducible rfl
                       rotate_left
                       ·simp only [Act.put, zA_, zB_, zC_, i64_w, i32_w]
                        rfl
                       refine take_ (i := 92) (N := some 159) (v := ?_) (a' := ?_) #[T_,T_,T_,T_,T_,T_,T_,T_,T_,T_,T_,T_,T_,T_,T_,T_,T_,T_,T_,T_,T_,T_,T_,T_,T_,T_,T_,T_,T_,T_,T_,T_,T_,T_,T_,T_,T_,T_,T_,T_,T_,T_,T_,T_,T_,T_,T_,T_,T_,T_,T_,T_,T_,T_,T_,T_,T_,T_,T_,T_,T_,T_,T_,T_,T_,T_,T_,T_,T_,T_,T_,T_,T_,T_,T_,T_,T_,T_,T_,T_,T_,T_,T_,T_,T_,T_,T_,F_,T_,F_,F_,T_,T_,F_,F_,F_] rfl rfl (take_ofW HT_.out HW_.out (by kernel_rfl)) (fun _ _ _ h => h) (Or.inl ⟨by rfl, ?_⟩) hHeld ?_ ?_
                       rotate_left
                       ·rintro w' ⟨s0, s1, s2, s3, s4, s5, s6, s7⟩
                        have hcv := own_string (P := Try.prog) Try.underlying22 Try.underlying5 Try.underlying9 (Kd.own_of_R s7)
                        go_simp
                        first | (with_reducible rfl) | (constructor <;> rfl) | rfl
                       rotate_left
                       ·simp only [Act.put, zA_, zB_, zC_, i64_w, i32_w]
                        rfl
                       refine take_ (i := 87) (N := some 154) (v := ?_) (a' := ?_) #[T_,T_,T_,T_,T_,T_,T_,T_,T_,T_,T_,T_,T_,T_,T_,T_,T_,T_,T_,T_,T_,T_,T_,T_,T_,T_,T_,T_,T_,T_,T_,T_,T_,T_,T_,T_,T_,T_,T_,T_,T_,T_,T_,T_,T_,T_,T_,T_,T_,T_,T_,T_,T_,T_,T_,T_,T_,T_,T_,T_,T_,T_,T_,T_,T_,T_,T_,T_,T_,T_,T_,T_,T_,T_,T_,T_,T_,T_,T_,T_,T_,T_,T_,T_,T_,T_,T_,T_,T_,F_,F_,T_,T_,F_,F_,F_] rfl rfl (take_ofW HT_.out HW_.out (by kernel_rfl)) (fun _ _ _ h => h) (Or.inl ⟨by rfl, ?_⟩) hHeld ?_ ?_
                       rotate_left
                       ·rintro w' ⟨s0, s1, s2, s3, s4, s5, s6, s7⟩
                        go_simp
                        with_reducible rfl
                       rotate_left
                       ·simp only [Act.put, zA_, zB_, zC_, i64_w, i32_w]
                        rfl
                       refine one_ (i := 89) (N := some 156) #[T_,T_,T_,T_,T_,T_,T_,T_,T_,T_,T_,T_,T_,T_,T_,T_,T_,T_,T_,T_,T_,T_,T_,T_,T_,T_,T_,T_,T_,T_,T_,T_,T_,T_,T_,T_,T_,T_,T_,T_,T_,T_,T_,T_,T_,T_,T_,T_,T_,T_,T_,T_,T_,T_,T_,T_,T_,T_,T_,T_,T_,T_,T_,T_,T_,T_,T_,T_,T_,T_,T_,T_,T_,T_,T_,T_,T_,T_,T_,T_,T_,T_,T_,T_,T_,T_,T_,T_,T_,T_,F_,T_,T_,F_,F_,F_] rfl rfl (one_of HT_.out (by kernel_rfl)) (by decide) (fun K hK => ?_)
                       refine goes_ Try.func17 (by kernel_rfl) rfl #[.agg #[.int .u8 t139, .int .u8 t140, .int .u8 t141, .int .u16 t142], .slice Ao157 t143.length co157] (by rfl) rfl rfl (by (try simp only [List.map_toArray, List.map_cons, List.map_nil]); first | done | rfl | (simp only [List.length_drop, List.length_take]; rfl)) ?_
                       with_reducible refine (header_Write.calls t139 t140 t141 t142 _ _ t143 t205 _ ?side1 ?side2 A130.out).mono ?_
                       (case side1 => repeat (first | exact (Kd.R_reads' HO145.out).2.2 | (with_reducible refine Kd.C_alloc ?_ _) | (with_reducible refine Kd.C_drewN ?_ _) | (with_reducible refine Kd.C_drew ?_)))
                       (case side2 => exact (Kd.R_reads' HO145.out).2.1)
                       rintro e w166 ⟨v206, rfl, ho0, hb⟩
                       refine ⟨_, rfl, ?_⟩
                       have n0_ := Aside0.mk (Kd.R_elder' (by (with_reducible repeat (first | apply Kd.R_alloc | apply Kd.R_drewN | apply Kd.R_drew)); exact HO138.out) (Kd.R_base ho0) hb)
                       have n1_ := Aside0.mk (Kd.R_elder' (by (with_reducible repeat (first | apply Kd.R_alloc | apply Kd.R_drewN | apply Kd.R_drew)); exact HO145.out) (Kd.R_base ho0) hb)
                       have n2_ := Aside0.mk (Kd.R_elder' (by (with_reducible repeat (first | apply Kd.R_alloc | apply Kd.R_drewN | apply Kd.R_drew)); exact HO150.out) (Kd.R_base ho0) hb)
                       have n3_ := Aside0.mk (Kd.R_elder' (by (with_reducible repeat (first | apply Kd.R_alloc | apply Kd.R_drewN | apply Kd.R_drew)); exact HO154.out) (Kd.R_base ho0) hb)
                       have n4_ := Aside0.mk (Kd.R_elder' (by (with_reducible repeat (first | apply Kd.R_alloc | apply Kd.R_drewN | apply Kd.R_drew)); exact HO158.out) (Kd.R_base ho0) hb)
                       have n5_ := Aside0.mk (Kd.R_elder' (by (with_reducible repeat (first | apply Kd.R_alloc | apply Kd.R_drewN | apply Kd.R_drew)); exact HO170.out) (Kd.R_base ho0) hb)
                       have n6_ := Aside0.mk (Kd.R_elder' (by (with_reducible repeat (first | apply Kd.R_alloc | apply Kd.R_drewN | apply Kd.R_drew)); exact HO179.out) (Kd.R_base ho0) hb)
                       have n7_ := Aside0.mk (Kd.R_lower (Kd.R_new' (Kd.R_new' (Kd.R_new' (Kd.R_new' (Kd.R_new' (Kd.R_new' (Kd.R_new' ho0 (Kd.R_lt (by (with_reducible repeat (first | apply Kd.R_alloc | apply Kd.R_drewN | apply Kd.R_drew)); exact HO138.out))) (Kd.R_lt (by (with_reducible repeat (first | apply Kd.R_alloc | apply Kd.R_drewN | apply Kd.R_drew)); exact HO145.out))) (Kd.R_lt (by (with_reducible repeat (first | apply Kd.R_alloc | apply Kd.R_drewN | apply Kd.R_drew)); exact HO150.out))) (Kd.R_lt (by (with_reducible repeat (first | apply Kd.R_alloc | apply Kd.R_drewN | apply Kd.R_drew)); exact HO154.out))) (Kd.R_lt (by (with_reducible repeat (first | apply Kd.R_alloc | apply Kd.R_drewN | apply Kd.R_drew)); exact HO158.out))) (Kd.R_lt (by (with_reducible repeat (first | apply Kd.R_alloc | apply Kd.R_drewN | apply Kd.R_drew)); exact HO170.out))) (Kd.R_lt (by (with_reducible repeat (first | apply Kd.R_alloc | apply Kd.R_drewN | apply Kd.R_drew)); exact HO179.out))) (below_size (by repeat (first | (with_reducible first | exact HB.out | apply below_alloc | apply pw_below_drewN | apply below_drew1 | refine below_set ?_ (IsS50.ge HI185.out) | refine below_set ?_ GE147.out | refine below_set ?_ GE172.out | refine below_set ?_ GE181.out) | exact HB.out))))
                       have n8_ := Aside0.mk (blk_below (g := gb147) (o := .cells #[.int .u8 t139, .int .u8 t140, .int .u8 t141, .int .u16 t142] 25 (0, 0)) (by (with_reducible repeat (first | refine blk_drewN ?_ _ | refine blk_drew ?_ | refine blk_alloc ?_ _)); exact BK147.out) hb)
                       have n9_ := Aside0.mk (blk_below (g := gb172) (o := .cells #[.int .u8 t164, .int .u8 t165, .int .u8 t166, .int .u16 t167] 25 (0, 0)) (by (with_reducible repeat (first | refine blk_drewN ?_ _ | refine blk_drew ?_ | refine blk_alloc ?_ _)); exact BK172.out) hb)
                       have n10_ := Aside0.mk (blk_below (g := gb181) (o := .cells #[.int .u8 t173, .int .u8 t174, .int .u8 t175, .int .u16 t176] 25 (0, 0)) (by (with_reducible repeat (first | refine blk_drewN ?_ _ | refine blk_drew ?_ | refine blk_alloc ?_ _)); exact BK181.out) hb)
                       have n11_ := Aside0.mk (IsS50.below (by repeat (first | (with_reducible first | exact HI185.out | apply IsS50.alloc | apply IsS50.drewN | apply IsS50.drew | apply IsS50.set_0 | apply IsS50.set_1 | refine IsS50.far ?_ NB185_147.out (by (with_reducible repeat (first | apply typed_set | apply typed_alloc | apply typed_drewN | apply typed_drew)); exact typed_of BK147.out (by decide)) _ | refine IsS50.far ?_ NB185_172.out (by (with_reducible repeat (first | apply typed_set | apply typed_alloc | apply typed_drewN | apply typed_drew)); exact typed_of BK172.out (by decide)) _ | refine IsS50.far ?_ NB185_181.out (by (with_reducible repeat (first | apply typed_set | apply typed_alloc | apply typed_drewN | apply typed_drew)); exact typed_of BK181.out (by decide)) _) | exact HI185.out)) hb)
                       have n12_ := Aside0.mk (below_step (by repeat (first | (with_reducible first | exact HB.out | apply below_alloc | apply pw_below_drewN | apply below_drew1 | refine below_set ?_ (IsS50.ge HI185.out) | refine below_set ?_ GE147.out | refine below_set ?_ GE172.out | refine below_set ?_ GE181.out) | exact HB.out)) hb)
                       clear HO138
                       clear HO145
                       clear HO150
                       clear HO154
                       clear HO158
                       clear HO170
                       clear HO179
                       clear BK147
                       clear BK172
                       clear BK181
                       clear HI185
                       clear HB
                       have HO138 := n0_
                       have HO145 := n1_
                       have HO150 := n2_
                       have HO154 := n3_
                       have HO158 := n4_
                       have HO170 := n5_
                       have HO179 := n6_
                       have HO207 := n7_
                       have BK147 := n8_
                       have BK172 := n9_
                       have BK181 := n10_
                       have HI185 := n11_
                       have HB := n12_
                       clear n0_ n1_ n2_ n3_ n4_ n5_ n6_ n7_ n8_ n9_ n10_ n11_ n12_
                       (try clear hb)
                       (try clear hb2)
                       (try clear hk)
                       (try clear hi)
                       (try clear ho0)
                       have hcv168 := own_string (P := Try.prog) Try.underlying22 Try.underlying5 Try.underlying9 (Kd.own_of_R HO138.out)
                       refine hK.out _ _ ⟨(blk_cell BK147.out 0).trans rfl, (blk_cell BK147.out 1).trans rfl, (blk_cell BK147.out 2).trans rfl, (blk_cell BK147.out 3).trans rfl, Kd.R_mono HO145.out (fun _ _ => trivial), Kd.R_mono HO150.out (fun _ _ => trivial), Kd.R_mono HO154.out (fun _ _ => trivial), Kd.R_mono HO138.out (fun _ _ => trivial)⟩ (fun hHeld => ?_)
                       clear hK K
                       refine norm_ (a' := ?_) ?_ ?_
                       rotate_left
                       ·show Act.put _ (some 156) _ = _
                        simp only [Act.put, zA_, zB_, zC_, i64_w, i32_w]
                        rfl
                       refine one_ (i := 90) (N := some 157) #[T_,T_,T_,T_,T_,T_,T_,T_,T_,T_,T_,T_,T_,T_,T_,T_,T_,T_,T_,T_,T_,T_,T_,T_,T_,T_,T_,T_,T_,T_,T_,T_,T_,T_,T_,T_,T_,T_,T_,T_,T_,T_,T_,T_,T_,T_,T_,T_,T_,T_,T_,T_,T_,T_,T_,T_,T_,T_,T_,T_,T_,T_,T_,T_,T_,T_,T_,T_,T_,T_,T_,T_,T_,T_,T_,T_,T_,T_,T_,T_,T_,T_,T_,T_,T_,T_,T_,T_,T_,T_,T_,T_,T_,F_,F_,F_] rfl rfl (one_of HT_.out (by kernel_rfl)) (by decide) (fun K hK => ?_)
                       have hcv167 := own_string (P := Try.prog) Try.underlying22 Try.underlying5 Try.underlying9 (Kd.own_of_R HO207.out)
                       refine value_ (w1 := ?_) (v := ?_) (by rfl) rfl ?_ ?_
                       rotate_left 2
                       ·go_simp
                        constructor
                        ·rfl
                        ·rfl
                       clear hcv167
                       refine hK.out _ _ ⟨(blk_cell BK147.out 0).trans rfl, (blk_cell BK147.out 1).trans rfl, (blk_cell BK147.out 2).trans rfl, (blk_cell BK147.out 3).trans rfl, Kd.R_mono HO145.out (fun _ _ => trivial), Kd.R_mono HO150.out (fun _ _ => trivial), Kd.R_mono HO154.out (fun _ _ => trivial), Kd.R_mono HO138.out (fun _ _ => trivial)⟩ (fun hHeld => ?_)
                       clear hK K
                       refine norm_ (a' := ?_) ?_ ?_
                       rotate_left
                       ·show Act.put _ (some 157) _ = _
                        simp only [Act.put, zA_, zB_, zC_, i64_w, i32_w]
                        rfl
                       refine pure_ (i := 93) (N := some 160) (v := ?_) (a' := ?_) #[T_,T_,T_,T_,T_,T_,T_,T_,T_,T_,T_,T_,T_,T_,T_,T_,T_,T_,T_,T_,T_,T_,T_,T_,T_,T_,T_,T_,T_,T_,T_,T_,T_,T_,T_,T_,T_,T_,T_,T_,T_,T_,T_,T_,T_,T_,T_,T_,T_,T_,T_,T_,T_,T_,T_,T_,T_,T_,T_,T_,T_,T_,T_,T_,T_,T_,T_,T_,T_,T_,T_,T_,T_,T_,T_,T_,T_,T_,T_,T_,T_,T_,T_,T_,T_,T_,T_,T_,T_,T_,T_,T_,T_,T_,F_,F_] rfl rfl (any_of HT_.out (by kernel_rfl)) (fun _ _ _ h => h) (Or.inl ⟨by rfl, ?_⟩) ?_ ?_
                       rotate_left
                       ·intro w'
                        go_simp
                        with_reducible rfl
                       rotate_left
                       ·simp only [Act.put, zA_, zB_, zC_, i64_w, i32_w]
                        rfl
                       refine pure_ (i := 94) (N := some 161) (v := ?_) (a' := ?_) #[T_,T_,T_,T_,T_,T_,T_,T_,T_,T_,T_,T_,T_,T_,T_,T_,T_,T_,T_,T_,T_,T_,T_,T_,T_,T_,T_,T_,T_,T_,T_,T_,T_,T_,T_,T_,T_,T_,T_,T_,T_,T_,T_,T_,T_,T_,T_,T_,T_,T_,T_,T_,T_,T_,T_,T_,T_,T_,T_,T_,T_,T_,T_,T_,T_,T_,T_,T_,T_,T_,T_,T_,T_,T_,T_,T_,T_,T_,T_,T_,T_,T_,T_,T_,T_,T_,T_,T_,T_,T_,T_,T_,T_,T_,T_,F_] rfl rfl (any_of HT_.out (by kernel_rfl)) (fun _ _ _ h => h) (Or.inl ⟨by rfl, ?_⟩) ?_ ?_
                       rotate_left
                       ·intro w'
                        go_simp
                        with_reducible rfl
                       rotate_left
                       ·simp only [Act.put, zA_, zB_, zC_, i64_w, i32_w]
                        rfl
                       refine pure_ (i := 95) (N := some 0) (v := ?_) (a' := ?_) #[T_,T_,T_,T_,T_,T_,T_,T_,T_,T_,T_,T_,T_,T_,T_,T_,T_,T_,T_,T_,T_,T_,T_,T_,T_,T_,T_,T_,T_,T_,T_,T_,T_,T_,T_,T_,T_,T_,T_,T_,T_,T_,T_,T_,T_,T_,T_,T_,T_,T_,T_,T_,T_,T_,T_,T_,T_,T_,T_,T_,T_,T_,T_,T_,T_,T_,T_,T_,T_,T_,T_,T_,T_,T_,T_,T_,T_,T_,T_,T_,T_,T_,T_,T_,T_,T_,T_,T_,T_,T_,T_,T_,T_,T_,T_,T_] rfl rfl (any_of HT_.out (by kernel_rfl)) (fun _ _ _ h => h) (Or.inl ⟨by rfl, ?_⟩) ?_ ?_
                       rotate_left
                       ·intro w'
                        go_simp
                        with_reducible rfl
                       rotate_left
                       ·simp only [Act.put, zA_, zB_, zC_, i64_w, i32_w]
                        rfl
                       refine done_ (done_of HT_.out (by kernel_rfl)) ?_
                       try go_wp2
                       go_ret
                       exact ⟨by first | rfl | (simp [errW_none, errW_some] <;> rfl) | (simp [*, errW_none, errW_some] <;> rfl), by repeat (first | (with_reducible first | exact HB.out | apply below_alloc | apply pw_below_drewN | apply below_drew1 | refine below_set ?_ (IsS50.ge HI185.out) | refine below_set ?_ GE147.out | refine below_set ?_ GE172.out | refine below_set ?_ GE181.out) | exact HB.out)⟩
                      ·rw [if_neg c129] at H
                       have c129b0 : (t202 == 1) = false := beq_eq_false_iff_ne.mpr c129
                       have c129b1 : (t202 != 1) = true := bne_iff_ne.mpr c129
                       obtain rfl := Option.some.inj H
                       exact absurd hr_ (by decide)
                    ·replace c92 := Bool.eq_false_iff.mpr c92
                     subst c92
                     have H1 : (some false) = some r := by rw [if_neg (show ¬ (false = true) by decide)] at H; exact H
                     clear H
                     have H := H1
                     clear H1
                     obtain rfl := Option.some.inj H
                     exact absurd hr_ (by decide)
                   ·rw [if_neg c90] at H
                    have c90b0 : (t193 == 2) = false := beq_eq_false_iff_ne.mpr c90
                    have c90b1 : (t193 != 2) = true := bne_iff_ne.mpr c90
                    obtain rfl := Option.some.inj H
                    exact absurd hr_ (by decide)
                  ·rw [if_neg c88] at H
                   have c88b0 : (t189 == 1) = false := beq_eq_false_iff_ne.mpr c88
                   have c88b1 : (t189 != 1) = true := bne_iff_ne.mpr c88
                   obtain rfl := Option.some.inj H
                   exact absurd hr_ (by decide)
                 ·rw [if_neg c87] at H
                  have c87b0 : (t186 == 0) = false := beq_eq_false_iff_ne.mpr c87
                  have c87b1 : (t186 != 0) = true := bne_iff_ne.mpr c87
                  obtain rfl := Option.some.inj H
                  exact absurd hr_ (by decide)
                ·rw [if_neg c86] at H
                 have c86b0 : (t192 == 2) = false := beq_eq_false_iff_ne.mpr c86
                 have c86b1 : (t192 != 2) = true := bne_iff_ne.mpr c86
                 obtain rfl := Option.some.inj H
                 exact absurd hr_ (by decide)
               ·replace c84 := Bool.eq_false_iff.mpr c84
                subst c84
                have H1 : (some false) = some r := by rw [if_neg (show ¬ (false = true) by decide)] at H; exact H
                clear H
                have H := H1
                clear H1
                obtain rfl := Option.some.inj H
                exact absurd hr_ (by decide)
             ·rw [if_neg c52] at H
              have c52b0 : (t182 == 0) = false := beq_eq_false_iff_ne.mpr c52
              have c52b1 : (t182 != 0) = true := bne_iff_ne.mpr c52
              obtain rfl := Option.some.inj H
              exact absurd hr_ (by decide)
            ·rw [if_neg c51] at H
             have c51b0 : (t171 == 20) = false := beq_eq_false_iff_ne.mpr c51
             have c51b1 : (t171 != 20) = true := bne_iff_ne.mpr c51
             obtain rfl := Option.some.inj H
             exact absurd hr_ (by decide)
          ·replace c19 := Bool.eq_false_iff.mpr c19
           subst c19
           have H1 : (some false) = some r := by rw [if_neg (show ¬ (false = true) by decide)] at H; exact H
           clear H
           have H := H1
           clear H1
           obtain rfl := Option.some.inj H
           exact absurd hr_ (by decide)
         ·rw [if_neg c18] at H
          have c18b0 : ((strOfNums t152).toList == ([2, 0, 1, 0, 7, 0] : List UInt8)) = false := beq_eq_false_iff_ne.mpr c18
          have c18b1 : ((strOfNums t152).toList != ([2, 0, 1, 0, 7, 0] : List UInt8)) = true := bne_iff_ne.mpr c18
          obtain rfl := Option.some.inj H
          exact absurd hr_ (by decide)
        ·replace c17 := Bool.eq_false_iff.mpr c17
         subst c17
         have H1 : (some false) = some r := by rw [if_neg (show ¬ (false = true) by decide)] at H; exact H
         clear H
         have H := H1
         clear H1
         obtain rfl := Option.some.inj H
         exact absurd hr_ (by decide)
       ·rw [if_neg c16] at H
        have c16b0 : ((strOfNums t148).toList == ([2, 0, 0, 0, 7, 0] : List UInt8)) = false := beq_eq_false_iff_ne.mpr c16
        have c16b1 : ((strOfNums t148).toList != ([2, 0, 0, 0, 7, 0] : List UInt8)) = true := bne_iff_ne.mpr c16
        obtain rfl := Option.some.inj H
        exact absurd hr_ (by decide)
      ·rw [if_neg c15] at H
       have c15b0 : ((strOfNums t143).toList == ([241] : List UInt8)) = false := beq_eq_false_iff_ne.mpr c15
       have c15b1 : ((strOfNums t143).toList != ([241] : List UInt8)) = true := bne_iff_ne.mpr c15
       obtain rfl := Option.some.inj H
       exact absurd hr_ (by decide)
     ·rw [if_neg c14] at H
      have c14b0 : (t142 == 7) = false := beq_eq_false_iff_ne.mpr c14
      have c14b1 : (t142 != 7) = true := bne_iff_ne.mpr c14
      obtain rfl := Option.some.inj H
      exact absurd hr_ (by decide)
    ·rw [if_neg c13] at H
     have c13b0 : (t141 == 2) = false := beq_eq_false_iff_ne.mpr c13
     have c13b1 : (t141 != 2) = true := bne_iff_ne.mpr c13
     obtain rfl := Option.some.inj H
     exact absurd hr_ (by decide)
   ·rw [if_neg c12] at H
    have c12b0 : (t139 == 0) = false := beq_eq_false_iff_ne.mpr c12
    have c12b1 : (t139 != 0) = true := bne_iff_ne.mpr c12
    obtain rfl := Option.some.inj H
    exact absurd hr_ (by decide)
  ·rw [if_neg c11] at H
   have c11b0 : (t146 == 0) = false := beq_eq_false_iff_ne.mpr c11
   have c11b1 : (t146 != 0) = true := bne_iff_ne.mpr c11
   obtain rfl := Option.some.inj H
   exact absurd hr_ (by decide)
 ·rw [if_neg c5] at H
  exact absurd H (by simp)

end Go.Proofs.Ytnhogaelhggheaa.P
