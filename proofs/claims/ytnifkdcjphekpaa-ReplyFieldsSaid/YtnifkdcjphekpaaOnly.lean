/- ReplyFields' closure: the reply of a plane in which one field alone is modified. -/
import Derived.Test.YtnifkdcjphekpaaClone
import Derived.Test.YtnifkdcjphekpaaReplies
namespace Go.Proofs.Ytnifkdcjphekpaa.H
open Go.RowKit Go.Proofs.YtnifkdcjphekpaaW.PrintWords Go.Proofs.YtnifkdcjphekpaaW.PrintLast
set_option linter.unusedVariables false
set_option linter.unusedSimpArgs false
def mod1 (one i : Int) (x : A.S34) : A.S34 := ⟨if i = one then Go.bits .or .u8 (Go.bits .andNot .u8 x.f0 1) 1 else Go.bits .andNot .u8 x.f0 1, x.f1, x.f2, x.f3, x.f4⟩
def modsTo (cs : List A.S34) (st : List Int) (one : Int) : Nat → List A.S34
  | 0 => cs
  | k + 1 => (modsTo cs st one k).set (rd st (k : Int)).toNat (mod1 one (rd st (k : Int)) (A.rd_T34 (modsTo cs st one k) (rd st (k : Int))))
theorem modsTo_length (cs : List A.S34) (st : List Int) (one : Int) : ∀ k, (modsTo cs st one k).length = cs.length
  | 0 => rfl
  | k + 1 => by rw [modsTo, List.length_set, modsTo_length cs st one k]
section
variable {w : World} {g c0 bp bs cS : Nat} {ad aS : Addr} {r c cur : Int} {cs : List A.S34} {st : List Int}
set_option maxHeartbeats 2000000 in
set_option maxRecDepth 100000 in
theorem only_p (hI : IsP w g (some ad) c0 r c cs cur) (h0 : 0 ≤ cur) (h1 : cur < cs.length) (hp : w.heap[bp]? = some (.cells #[.pointer (some ⟨g, 0, none⟩)] 28 (0, 0))) (hs : w.heap[bs]? = some (.cells #[.slice (some aS) st.length cS] 38 (0, 0)))
    (hst : ReadsInt w .i64 (some aS) st.length st) (hin : ∀ k : Nat, k < st.length → 0 ≤ rd st (k : Int) ∧ rd st (k : Int) < cs.length) (one : Int) (hm : st.length ≤ 4096) :
    Calls Try.prog 13 #[.int .i64 one, .pointer (some ⟨bp, 0, none⟩), .pointer (some ⟨bs, 0, none⟩)] w fun e w' => ∃ v, e = .returned v ∧ w'.ownsRow w.heap.size 5 1 v (readL (modsTo cs st one st.length) cur 125).length (nu (readL (modsTo cs st one st.length) cur 125)) ∧ Below w.heap.size w w' := by
  have hu34 := Try.underlying34
  have HI := Lib.hid hI
  have HP := Lib.hid hp
  have HS := Lib.hid hs
  have HST := Lib.hid hst
  have HIN := Lib.hid hin
  have H01 := Lib.hid (And.intro h0 h1)
  have p0 := (blk_cell hp 0).trans rfl
  clear hI hp hs hst hin h0 h1
  go_enter Try.func13, Try.ntmps13
  go_wp2_with (go_at_call 14; (with_reducible refine (clone_p HI.out).mono ?_); rintro e w1 ⟨g2, R2, c2, rfl, hg2, hR2, ho, hb⟩; have HO1 := Lib.hid ho; have HB1 := Lib.hid hb; have HG := Lib.hid (And.intro hg2 hR2); have s0 := (blk_cell (blk_below HS.out hb) 0).trans rfl; clear ho hb hg2 hR2)
  go_loopw [13] (fun v13 wr => ∃ k : Nat, k ≤ st.length ∧ v13 = .int .i64 k ∧ OwnP wr g2 R2 c2 r c (modsTo cs st one k) cur ∧ Below w.heap.size w wr) (fun v13 _ => st.length - (intOf v13).toNat)
  case atStart => exact ⟨0, Nat.zero_le _, rfl, HO1.out, HB1.out⟩
  case round =>
    clear HO1 HB1 s0
    obtain ⟨k, hk, rfl, ho, hb⟩ := hrel
    have HO := Lib.hid ho
    have HB := Lib.hid hb
    clear ho hb
    by_cases hlt : k < st.length
    · have hmd : modsTo cs st one (k + 1) = (modsTo cs st one k).set (rd st (k : Int)).toNat (mod1 one (rd st (k : Int)) (A.rd_T34 (modsTo cs st one k) (rd st (k : Int)))) := rfl
      have hlen := modsTo_length cs st one k
      obtain ⟨hi0, hi1⟩ := HIN.out k hlt
      obtain ⟨aS', haS, ck⟩ := HST.out.at_ (k : Int) (by omega) (by omega)
      obtain rfl : aS = aS' := by injection haS
      have ck := pw_cell_below HB.out ck
      simp only [Int.toNat_natCast] at ck
      obtain ⟨i, hi⟩ : ∃ i, rd st (k : Int) = i := ⟨_, rfl⟩
      rw [hi] at hmd hi0 hi1 ck
      obtain ⟨ms, hms⟩ : ∃ ms, modsTo cs st one k = ms := ⟨_, rfl⟩
      rw [hms] at HO hmd hlen
      obtain ⟨x, hx⟩ : ∃ x, A.rd_T34 ms i = x := ⟨_, rfl⟩
      rw [hx] at hmd
      have hat := at_p HO.out.isP i hi0 (by rw [hlen]; exact hi1)
      rw [hx] at hat
      obtain ⟨b0, b1, b2, b3, b4⟩ := x
      have HAT : Hid (Reads 15 #[.pointer (some ⟨g2, 0, none⟩), .int .i64 i] wr (.agg #[.int .u8 b0, .bool b1, .bool b2, .int .u8 b3, .int .u8 b4])) := Lib.hid hat
      have HMD := Lib.hid hmd
      have HI01 := Lib.hid (And.intro hi0 (And.intro hi1 hlen))
      clear haS hi hms hx hat hmd hi0 hi1 hlen
      by_cases hone : i = one
      · have HV : Hid (mod1 one i ⟨b0, b1, b2, b3, b4⟩ = ⟨(Go.bits .or .u8 (Go.bits .andNot .u8 b0 1) 1), b1, b2, b3, b4⟩) := Lib.hid (by rw [mod1, if_pos hone])
        have e1 : (i == one) = true := beq_iff_eq.2 hone
        clear hone
        have hset : ∀ W : World, OwnP W g2 R2 c2 r c ms cur → Calls Try.prog 16 #[.pointer (some ⟨g2, 0, none⟩), .int .i64 i, .agg #[.int .u8 (Go.bits .or .u8 (Go.bits .andNot .u8 b0 1) 1), .bool b1, .bool b2, .int .u8 b3, .int .u8 b4]] W fun e w' => e = .returned (.bool true) ∧ OwnP w' g2 R2 c2 r c (ms.set i.toNat ⟨(Go.bits .or .u8 (Go.bits .andNot .u8 b0 1) 1), b1, b2, b3, b4⟩) cur ∧ W.grownBy w' (some R2) := fun W h => set_p h ⟨(Go.bits .or .u8 (Go.bits .andNot .u8 b0 1) 1), b1, b2, b3, b4⟩ i HI01.out.1 (by rw [HI01.out.2.2]; exact HI01.out.2.1)
        have HSET := Lib.hid hset
        clear hset
        go_wp2_with (first
          | (go_at_call 15; (with_reducible refine HAT.out.mono ?_); rintro e w3 ⟨rfl, hb3⟩; have hch := below_alloc hb3 (.cells #[.int .u8 (Go.bits .or .u8 (Go.bits .andNot .u8 b0 1) 1), .bool b1, .bool b2, .int .u8 b3, .int .u8 b4] 34); have HCH := Lib.hid (below_step HB.out hch); have HOC := Lib.hid (HO.out.later hch); clear hb3 hch)
          | (go_at_call 16; (with_reducible refine (HSET.out _ HOC.out).mono ?_); rintro e w4 ⟨rfl, ho4, hg4⟩; have HO4 := Lib.hid ho4; have HB4 := Lib.hid (HCH.out.trans (grown_below hg4 HG.out.2 HCH.out.size)); clear ho4 hg4))
        go_roundw
        case rel => exact ⟨k + 1, by omega, by go_num, by rw [HMD.out, HV.out]; exact HO4.out, HB4.out⟩
        case measure => simp [intOf]; omega
      · have HV : Hid (mod1 one i ⟨b0, b1, b2, b3, b4⟩ = ⟨(Go.bits .andNot .u8 b0 1), b1, b2, b3, b4⟩) := Lib.hid (by rw [mod1, if_neg hone])
        have e1 : (i == one) = false := beq_eq_false_iff_ne.2 hone
        clear hone
        have hset : ∀ W : World, OwnP W g2 R2 c2 r c ms cur → Calls Try.prog 16 #[.pointer (some ⟨g2, 0, none⟩), .int .i64 i, .agg #[.int .u8 (Go.bits .andNot .u8 b0 1), .bool b1, .bool b2, .int .u8 b3, .int .u8 b4]] W fun e w' => e = .returned (.bool true) ∧ OwnP w' g2 R2 c2 r c (ms.set i.toNat ⟨(Go.bits .andNot .u8 b0 1), b1, b2, b3, b4⟩) cur ∧ W.grownBy w' (some R2) := fun W h => set_p h ⟨(Go.bits .andNot .u8 b0 1), b1, b2, b3, b4⟩ i HI01.out.1 (by rw [HI01.out.2.2]; exact HI01.out.2.1)
        have HSET := Lib.hid hset
        clear hset
        go_wp2_with (first
          | (go_at_call 15; (with_reducible refine HAT.out.mono ?_); rintro e w3 ⟨rfl, hb3⟩; have hch := below_alloc hb3 (.cells #[.int .u8 (Go.bits .andNot .u8 b0 1), .bool b1, .bool b2, .int .u8 b3, .int .u8 b4] 34); have HCH := Lib.hid (below_step HB.out hch); have HOC := Lib.hid (HO.out.later hch); clear hb3 hch)
          | (go_at_call 16; (with_reducible refine (HSET.out _ HOC.out).mono ?_); rintro e w4 ⟨rfl, ho4, hg4⟩; have HO4 := Lib.hid ho4; have HB4 := Lib.hid (HCH.out.trans (grown_below hg4 HG.out.2 HCH.out.size)); clear ho4 hg4))
        go_roundw
        case rel => exact ⟨k + 1, by omega, by go_num, by rw [HMD.out, HV.out]; exact HO4.out, HB4.out⟩
        case measure => simp [intOf]; omega
    · obtain rfl : k = st.length := by omega
      go_wp2_with (go_at_call 11; (with_reducible refine (read_a HO.out.isP H01.out.1 (by rw [modsTo_length]; exact H01.out.2) 125).mono ?_); rintro e w5 ⟨v, rfl, hr, hb⟩; have HR := Lib.hid (own_weaken hr HB.out.size); have HB5 := Lib.hid (below_step HB.out hb); clear hr hb)
      go_ret
      exact ⟨_, rfl, HR.out, HB5.out⟩
end
end Go.Proofs.Ytnifkdcjphekpaa.H
