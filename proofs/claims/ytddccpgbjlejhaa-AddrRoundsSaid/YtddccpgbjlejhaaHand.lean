/- addr.Between hands its places one by one to the loop over it; what the law's 'list' collects of it. -/
import Derived.RangeFuncBox
import Derived.RangeFuncNested
import Derived.RangeFuncBound
import Derived.RangeFuncCalls
import Derived.RangeFuncLeaves
import Derived.Shelf.Abstract
import Derived.Shelf.RegionOpen
import Derived.WalkKit
import Derived.OwnWalkIn
import Derived.TacticsInMore
import Derived.LoopNIn
import Derived.LoopIn
import Derived.Maps.AppendAt
import Derived.Maps.OwnIn
import Derived.Deep.DeepMust
import Derived.KernelRfl
import Derived.Lib.Hide
import Derived.ChangeKeysEq
import Derived.Test.YtddccpgbjlejhaaAx1
namespace Go.Proofs.Ytddccpgbjlejhaa.Hand
open Go.RowKit Go.Shelf Go.Proofs.YtddccpgbjlejhaaW.PrintWords

attribute [local go_sem] Oper.semAt_some

/-! ### the places, in plain Lean -/
def cells (s0 s1 : Int) : Int := if s0 < 1 ∨ s0 > 43 ∨ s1 < 1 ∨ s1 > 132 ∨ s0 * s1 > 4096 then 0 else s0 * s1
theorem cells_f (s0 s1 : Int) : A.addr_Cells.f s0 s1 = some (cells s0 s1) := by
  unfold A.addr_Cells.f cells
  by_cases h1 : s0 < 1
  · simp [h1]
  by_cases h2 : s0 > 43
  · simp [h1, h2]
  by_cases h3 : s1 < 1
  · simp [h1, h2, h3]
  by_cases h4 : s1 > 132
  · simp [h1, h2, h3, h4]
  have hb : 1 ≤ s0 * s1 ∧ s0 * s1 ≤ 43 * 132 := by
    constructor
    · exact Int.le_trans (by decide) (Int.mul_le_mul (show (1 : Int) ≤ s0 by omega) (show (1 : Int) ≤ s1 by omega) (by decide) (by omega))
    · exact Int.mul_le_mul (by omega) (by omega) (by omega) (by decide)
  have hw : wrap64 (s0 * s1) = s0 * s1 := by unfold wrap64; omega
  by_cases h5 : s0 * s1 > 4096
  · simp [h1, h2, h3, h4, h5, hw]
  · simp [h1, h2, h3, h4, h5, hw]
theorem cells_range (s0 s1 : Int) : 0 ≤ cells s0 s1 ∧ cells s0 s1 ≤ 4096 := by
  unfold cells
  split
  · omega
  · rename_i h
    have h1 : (1 : Int) ≤ s0 := by omega
    have h3 : (1 : Int) ≤ s1 := by omega
    have : 1 ≤ s0 * s1 := Int.le_trans (by decide) (Int.mul_le_mul h1 h3 (by decide) (by omega))
    omega
theorem move_f (s0 s1 a : Int) (h0 : 0 ≤ a) (h : a < cells s0 s1) : A.addr_Move.f s0 s1 a 1 = some (if a + 1 = cells s0 s1 then 0 else a + 1) := by
  have hr := cells_range s0 s1
  unfold A.addr_Move.f
  rw [cells_f]
  simp only [Option.bind_some]
  rw [if_neg (by omega)]
  generalize cells s0 s1 = n at *
  by_cases h1 : n = 1
  · subst h1
    obtain rfl : a = 0 := by omega
    simp [wrap64]
  have e1 : Int.tmod a n = a := Int.tmod_eq_of_lt h0 h
  have e2 : Int.tmod 1 n = 1 := Int.tmod_eq_of_lt (by decide) (by omega)
  have w1 : wrap64 (a + 1) = a + 1 := by unfold wrap64; omega
  rw [e1, e2, w1]
  by_cases h2 : a + 1 = n
  · rw [if_pos h2, h2]
    have e3 : Int.tmod n n = 0 := Int.tmod_self
    have w2 : wrap64 (0 + n) = n := by unfold wrap64; omega
    rw [e3, w2, e3]
  · rw [if_neg h2]
    have e3 : Int.tmod (a + 1) n = a + 1 := Int.tmod_eq_of_lt (by omega) (by omega)
    have w2 : wrap64 (a + 1 + n) = a + 1 + n := by unfold wrap64; omega
    have e4 : Int.tmod (a + 1 + n) n = a + 1 := by
      rw [Int.tmod_eq_emod_of_nonneg (by omega), Int.add_emod_right, Int.emod_eq_of_lt (by omega) (by omega)]
    rw [e3, w2, e4]

/-- The place that is i further on. -/
def place (n frm : Int) (i : Nat) : Int := if frm + i < n then frm + i else frm + i - n
def many (n frm dst : Int) : Nat := if frm < dst then (dst - frm).toNat else (dst - frm + n).toNat
def bad (n frm dst : Int) : Bool := decide (frm < 0 ∨ frm ≥ n ∨ dst < 0 ∨ dst ≥ n)
def places (n frm dst : Int) : List Int := if bad n frm dst then [] else (List.range (many n frm dst)).map (place n frm)
theorem place_next {n frm : Int} {i : Nat} (h0 : 0 ≤ frm) (h1 : frm < n) (hi : (i : Int) < n) : (if place n frm i + 1 = n then 0 else place n frm i + 1) = place n frm (i + 1) := by
  unfold place
  split <;> split <;> split <;> omega
theorem place_range {n frm : Int} {i : Nat} (h0 : 0 ≤ frm) (h1 : frm < n) (hi : (i : Int) < n) : 0 ≤ place n frm i ∧ place n frm i < n := by
  unfold place
  split <;> omega
theorem place_end {n frm dst : Int} {i : Nat} (h0 : 0 ≤ frm) (h1 : frm < n) (h2 : 0 ≤ dst) (h3 : dst < n) (hi : i < many n frm dst) : place n frm (i + 1) = dst ↔ i + 1 = many n frm dst := by
  unfold place many at *
  split at hi <;> split <;> constructor <;> intro h <;> (try split) <;> omega
theorem many_le {n frm dst : Int} (h0 : 0 ≤ frm) (h1 : frm < n) (h2 : 0 ≤ dst) (h3 : dst < n) : 0 < many n frm dst ∧ (many n frm dst : Int) ≤ n := by
  unfold many
  split <;> omega

/-! ### the iterator -/
def Caught (W : World) (Bs Bf Bt : Nat) (s0 s1 frm dst : Int) : Prop := W.cell? ⟨Bs, 0, none⟩ = some (.int .i64 s0) ∧ W.cell? ⟨Bs, 1, none⟩ = some (.int .i64 s1) ∧ W.cell? ⟨Bf, 0, none⟩ = some (.int .i64 frm) ∧ W.cell? ⟨Bt, 0, none⟩ = some (.int .i64 dst)
theorem Caught.below {W W' : World} {B Bs Bf Bt : Nat} {s0 s1 frm dst : Int} (h : Caught W Bs Bf Bt s0 s1 frm dst) (hb : Below B W W') (h1 : Bs < B) (h2 : Bf < B) (h3 : Bt < B) : Caught W' Bs Bf Bt s0 s1 frm dst :=
  ⟨(hb.cell (p := ⟨Bs, 0, none⟩) h1).trans h.1, (hb.cell (p := ⟨Bs, 1, none⟩) h1).trans h.2.1, (hb.cell (p := ⟨Bf, 0, none⟩) h2).trans h.2.2.1, (hb.cell (p := ⟨Bt, 0, none⟩) h3).trans h.2.2.2⟩

set_option maxRecDepth 100000 in
set_option maxHeartbeats 2000000 in
theorem btw_in (n : Nat) (hn : 1 ≤ n) (l Bs Bf Bt n₀ : Nat) (h1 : Bs < n₀) (h2 : Bf < n₀) (h3 : Bt < n₀) (s0 s1 frm dst : Int) (J Jx : List Int → World → Prop) (W : World) (hn0 : n₀ ≤ W.heap.size)
    (Kp : World → World → Prop) (hKc : ∀ A B, Kp A B → Caught A Bs Bf Bt s0 s1 frm dst → Caught B Bs Bf Bt s0 s1 frm dst) (hKs : ∀ A B, Kp A B → A.heap.size ≤ B.heap.size)
    (hJ : AbidesFrom W.heap.size J)
    (hY : ∀ pre x W, J pre W → pre.length < 4096 → YieldAt Fence.wide (n - 1) Try.prog l #[.int .i64 x] W fun e W' =>
      (e = .returned (.bool true) ∧ J (pre ++ [x]) W' ∧ Kp W W') ∨ (e = .returned (.bool false) ∧ Jx (pre ++ [x]) W'))
    (hc : Caught W Bs Bf Bt s0 s1 frm dst) (h0 : J [] W) :
    CallsIn Fence.wide n Try.prog 27 #[.func (.yield l) #[] #[], .pointer (some ⟨Bs, 0, none⟩), .pointer (some ⟨Bf, 0, none⟩), .pointer (some ⟨Bt, 0, none⟩)] W fun e W' => (∃ v, e = .returned v) ∧
      ((∃ ys, ys = places (cells s0 s1) frm dst ∧ J ys W') ∨ (∃ pre, pre <+: places (cells s0 s1) frm dst ∧ Jx pre W')) := by
  have hu35 := Try.underlying35
  have hr := cells_range s0 s1
  have hcf := cells_f s0 s1
  have hmf := fun a ha0 ha => move_f s0 s1 a ha0 ha
  have HC := Lib.hid hc
  have HCF := Lib.hid hcf
  have HMF := Lib.hid hmf
  clear hcf hmf
  have hKc' := Lib.hid hKc
  have hKs' := Lib.hid hKs
  clear hKc hKs
  have hJ' := Lib.hid hJ
  clear hJ
  have hY' := Lib.hid hY
  clear hY
  obtain ⟨k1, k2, k3, k4⟩ := hc
  obtain ⟨N, hN⟩ : ∃ N, cells s0 s1 = N := ⟨_, rfl⟩
  rw [hN] at hr HCF HMF ⊢
  clear hN
  by_cases hb : bad N frm dst = true
  · have hp : places N frm dst = [] := by simp [places, hb]
    have HP := Lib.hid hp
    have HB := Lib.hid hb
    clear hp hb
    refine callsIn_of_wp Try.func27 rfl trivial ?_ rfl
    simp only [Try.ntmps27, List.size_toArray, List.length_cons, List.length_nil, Nat.reduceAdd, Nat.reduceSub, Array.replicate_succ, Array.replicate_zero, List.push_toArray, List.append_toArray, List.nil_append, List.cons_append]
    gi_wp2_with (refine ⟨trivial, ?_⟩; gi_at_call 19; refine (callsIn_wide.2 (A.addr_Cells.calls s0 s1 N _ HCF.out)).mono ?_; rintro e w1 ⟨rfl, hb1⟩; obtain ⟨m1, m2, m3, m4⟩ := HC.out.below hb1 (by omega) (by omega) (by omega); have HJ1 := Lib.hid (hJ'.out [] W w1 none h0 ⟨hb1.os, hb1.tape, hb1.output, hb1.size, fun i hi _ => hb1.block i hi⟩ (fun _ h => by cases h)); clear hb1)
    all_goals first
      | (exfalso; have h := HB.out; simp [bad] at h; omega)
      | (refine bodyPost_ret (results_none rfl _ _ _) rfl ?_; exact ⟨⟨_, rfl⟩, .inl ⟨_, rfl, by rw [HP.out]; exact HJ1.out⟩⟩)
      | (refine bodyPost_ret (results_none rfl _ _ _) rfl ?_; exact ⟨⟨_, rfl⟩, .inl (by rw [HP.out]; exact HJ1.out)⟩)
  · have hg : 0 ≤ frm ∧ frm < N ∧ 0 ≤ dst ∧ dst < N := by simp [bad] at hb; omega
    obtain ⟨g1, g2, g3, g4⟩ := hg
    have hp : places N frm dst = (List.range (many N frm dst)).map (place N frm) := by simp [places, hb]
    have HP := Lib.hid hp
    have hm := many_le g1 g2 g3 g4
    clear hp hb
    refine callsIn_of_wp Try.func27 rfl trivial ?_ rfl
    simp only [Try.ntmps27, List.size_toArray, List.length_cons, List.length_nil, Nat.reduceAdd, Nat.reduceSub, Array.replicate_succ, Array.replicate_zero, List.push_toArray, List.append_toArray, List.nil_append, List.cons_append]
    gi_wp2_with (refine ⟨trivial, ?_⟩; gi_at_call 19; refine (callsIn_wide.2 (A.addr_Cells.calls s0 s1 N _ HCF.out)).mono ?_; rintro e w1 ⟨rfl, hb1⟩; obtain ⟨m1, m2, m3, m4⟩ := HC.out.below hb1 (by omega) (by omega) (by omega); have HJ1 := Lib.hid (hJ'.out [] W w1 none h0 ⟨hb1.os, hb1.tape, hb1.output, hb1.size, fun i hi _ => hb1.block i hi⟩ (fun _ h => by cases h)); have hsz1 : n₀ ≤ w1.heap.size := Nat.le_trans hn0 hb1.size; clear hb1)
    gi_loopw [6] (fun p wr => ∃ k : Nat, p = .int .i64 (place N frm k) ∧ k < many N frm dst ∧ Hid (Caught wr Bs Bf Bt s0 s1 frm dst) ∧ Hid (J ((List.range k).map (place N frm)) wr) ∧ n₀ ≤ wr.heap.size)
      (fun p wr => (N - (intOf p - frm) % N).toNat)
    case atStart => exact ⟨0, by simp [place, g2], hm.1, Lib.hid ⟨m1, m2, m3, m4⟩, HJ1, hsz1⟩
    case round =>
      obtain ⟨k, rfl, hk, HC2, HJ2, hsz⟩ := hrel
      have hx := place_range g1 g2 (i := k) (by omega)
      have hmk := HMF.out (place N frm k) hx.1 hx.2
      rw [place_next g1 g2 (by omega)] at hmk
      have HM := Lib.hid hmk
      have hpe := place_end g1 g2 g3 g4 hk
      have hx2 := place_range (n := N) (frm := frm) (i := k + 1) g1 g2
      obtain ⟨c1, c2, c3, c4⟩ := HC2.out
      obtain ⟨fn, tmps, assign, body, hy, hR⟩ := hY'.out _ (place N frm k) wr HJ2.out (by simp; omega)
      have hsn : (List.range k).map (place N frm) ++ [place N frm k] = (List.range (k + 1)).map (place N frm) := by simp [List.range_succ]
      rw [hsn] at hR
      have hpre : (List.range (k + 1)).map (place N frm) <+: places N frm dst := by
        rw [HP.out]
        obtain ⟨m, hm⟩ : ∃ m, many N frm dst = (k + 1) + m := ⟨many N frm dst - (k + 1), by omega⟩
        have hra : List.range (k + 1 + m) = List.range (k + 1) ++ (List.range m).map (fun j => k + 1 + j) := List.range_add
        rw [hm, hra, List.map_append]
        exact List.prefix_append _ _
      have hlast : k + 1 = many N frm dst → (List.range (k + 1)).map (place N frm) = places N frm dst := fun h => by rw [HP.out, h]
      have hmeas : k + 1 < many N frm dst → (N - (place N frm (k + 1) - frm) % N).toNat < (N - (place N frm k - frm) % N).toNat := by
        intro h
        have e : ∀ i : Nat, (i : Int) < N → (place N frm i - frm) % N = i := by
          intro i hi
          unfold place
          split
          · rw [show frm + (i : Int) - frm = i by omega]; exact Int.emod_eq_of_lt (by omega) hi
          · rw [show frm + (i : Int) - N - frm = i - N by omega, Int.sub_emod_right]; exact Int.emod_eq_of_lt (by omega) hi
        rw [e k (by omega), e (k + 1) (by omega)]
        omega
      have HPR := Lib.hid hpre
      have HLA := Lib.hid hlast
      have HME := Lib.hid hmeas
      have HPE := Lib.hid hpe
      have HX2 := Lib.hid hx2
      have HSN := Lib.hid hsn
      clear hpre hlast hmeas hpe hx2 hsn hmk
      obtain ⟨x, hxe⟩ : ∃ x, place N frm k = x := ⟨_, rfl⟩
      obtain ⟨r, hre⟩ : ∃ r, place N frm (k + 1) = r := ⟨_, rfl⟩
      rw [hxe] at hx HM HME hy ⊢
      rw [hre] at HM HPE HME HX2
      have HXE := Lib.hid hxe
      have HRE := Lib.hid hre
      clear hxe hre
      by_cases hk1 : k + 1 = many N frm dst
      · have hrd : r = dst := HPE.out.2 hk1
        subst hrd
        have HK1 := Lib.hid hk1
        clear hk1
        gi_wp2
        refine hR.mono ?_
        rintro e W3 (⟨rfl, hJ3, hk3⟩ | ⟨rfl, hJx3⟩)
        · obtain ⟨d1, d2, d3, d4⟩ := hKc'.out _ _ hk3 HC2.out
          have HJ3 := Lib.hid hJ3
          have HK3 := Lib.hid hk3
          clear hJ3 hk3
          gi_wp2_with (refine ⟨trivial, ?_⟩; gi_at_call 23; refine (callsIn_wide.2 (A.addr_Move.calls s0 s1 x 1 r _ HM.out)).mono ?_; rintro e w4 ⟨rfl, hb4⟩; obtain ⟨f1, f2, f3, f4⟩ := (hKc'.out _ _ HK3.out HC2.out).below hb4 (by have := (hKs'.out _ _ HK3.out); omega) (by have := (hKs'.out _ _ HK3.out); omega) (by have := (hKs'.out _ _ HK3.out); omega); have HJ4 := Lib.hid (hJ'.out _ W3 w4 none HJ3.out ⟨hb4.os, hb4.tape, hb4.output, hb4.size, fun i hi _ => hb4.block i hi⟩ (fun _ h => by cases h)); clear hb4)
          refine bodyPost_ret (results_none rfl _ _ _) rfl ?_
          exact ⟨⟨_, rfl⟩, .inl ⟨_, HLA.out HK1.out, HJ4.out⟩⟩
        · gi_wp2
          go_end0
          exact ⟨⟨_, rfl⟩, .inr ⟨_, HPR.out, hJx3⟩⟩
      · have hrd : ¬ r = dst := fun h => hk1 (HPE.out.1 h)
        have hbd : (r == dst) = false := by simpa using hrd
        have HK1 := Lib.hid hk1
        clear hk1
        gi_wp2
        refine hR.mono ?_
        rintro e W3 (⟨rfl, hJ3, hk3⟩ | ⟨rfl, hJx3⟩)
        · obtain ⟨d1, d2, d3, d4⟩ := hKc'.out _ _ hk3 HC2.out
          have HJ3 := Lib.hid hJ3
          have HK3 := Lib.hid hk3
          clear hJ3 hk3
          gi_wp2_with (refine ⟨trivial, ?_⟩; gi_at_call 23; refine (callsIn_wide.2 (A.addr_Move.calls s0 s1 x 1 r _ HM.out)).mono ?_; rintro e w4 ⟨rfl, hb4⟩; obtain ⟨f1, f2, f3, f4⟩ := (hKc'.out _ _ HK3.out HC2.out).below hb4 (by have := (hKs'.out _ _ HK3.out); omega) (by have := (hKs'.out _ _ HK3.out); omega) (by have := (hKs'.out _ _ HK3.out); omega); have HJ4 := Lib.hid (hJ'.out _ W3 w4 none HJ3.out ⟨hb4.os, hb4.tape, hb4.output, hb4.size, fun i hi _ => hb4.block i hi⟩ (fun _ h => by cases h)); have hsz4 : n₀ ≤ w4.heap.size := Nat.le_trans hsz (Nat.le_trans (hKs'.out _ _ HK3.out) hb4.size); clear hb4)
          go_roundw
          case rel => exact ⟨k + 1, by rw [HRE.out], by have := HK1.out; omega, Lib.hid ⟨f1, f2, f3, f4⟩, HJ4, hsz4⟩
          case measure => exact HME.out (by have := HK1.out; omega)
        · gi_wp2
          go_end0
          exact ⟨⟨_, rfl⟩, .inr ⟨_, HPR.out, hJx3⟩⟩

/-- What the loop's rounds keep: the three captured variables. -/
def Kp3 (B : Nat) (A A' : World) : Prop := A.heap.size ≤ A'.heap.size ∧ ∀ b, B ≤ b → b < B + 3 → A'.heap[b]? = A.heap[b]?
theorem Kp3.caught {B : Nat} {A A' : World} {s0 s1 frm dst : Int} (h : Kp3 B A A') (hc : Caught A B (B + 1) (B + 2) s0 s1 frm dst) : Caught A' B (B + 1) (B + 2) s0 s1 frm dst :=
  ⟨(World.cell?_of_block (h.2 B (by omega) (by omega))).trans hc.1, (World.cell?_of_block (h.2 B (by omega) (by omega))).trans hc.2.1, (World.cell?_of_block (h.2 (B + 1) (by omega) (by omega))).trans hc.2.2.1, (World.cell?_of_block (h.2 (B + 2) (by omega) (by omega))).trans hc.2.2.2⟩
theorem Kp3.trans {B : Nat} {X Y Z : World} (h : Kp3 B X Y) (h' : Kp3 B Y Z) : Kp3 B X Z := ⟨Nat.le_trans h.1 h'.1, fun b h1 h2 => (h'.2 b h1 h2).trans (h.2 b h1 h2)⟩

theorem btw_stops (n : Nat) (hn : 1 ≤ n) (B : Nat) (s0 s1 frm dst : Int) (w : World) (hn0 : B + 3 ≤ w.heap.size) (hc : Caught w B (B + 1) (B + 2) s0 s1 frm dst) :
    SeqStopsK Fence.wide n Try.prog 27 #[.pointer (some ⟨B, 0, none⟩), .pointer (some ⟨B + 1, 0, none⟩), .pointer (some ⟨B + 2, 0, none⟩)] (fun x : Int => #[Value.int .i64 x]) (Kp3 B)
      (fun ys => ys = places (cells s0 s1) frm dst) (fun pre => pre <+: places (cells s0 s1) frm dst) 4096 w := fun l J Jx W hW hJ _ hY h0 =>
  btw_in n hn l B (B + 1) (B + 2) (B + 3) (by omega) (by omega) (by omega) s0 s1 frm dst J Jx W (Nat.le_trans hn0 hW.size) (Kp3 B) (fun _ _ h hc => h.caught hc) (fun _ _ h => h.1) hJ hY (hc.below (hW.mono hn0) (by omega) (by omega) (by omega)) h0

set_option maxHeartbeats 1000000 in
theorem between_in (n : Nat) (s0 s1 frm dst : Int) (w : World) :
    CallsIn Fence.wide n Try.prog 26 #[.agg #[.int .i64 s0, .int .i64 s1], .int .i64 frm, .int .i64 dst] w fun e w' =>
      e = .returned (.func (.func 27) #[] #[.pointer (some ⟨w.heap.size, 0, none⟩), .pointer (some ⟨w.heap.size + 1, 0, none⟩), .pointer (some ⟨w.heap.size + 2, 0, none⟩)]) ∧
      w' = ((w.alloc (.cells #[.int .i64 s0, .int .i64 s1] 35)).alloc (.cells #[.int .i64 frm] 3)).alloc (.cells #[.int .i64 dst] 3) := by
  have hu35 := Try.underlying35
  refine callsIn_of_wp Try.func26 rfl trivial ?_ rfl
  simp only [Try.ntmps26, List.size_toArray, List.length_cons, List.length_nil, Nat.reduceAdd, Nat.reduceSub, Array.replicate_succ, Array.replicate_zero, List.push_toArray, List.append_toArray, List.nil_append, List.cons_append]
  gi_wp2
  go_ret
  exact ⟨rfl, rfl⟩

theorem info3 : (Try.prog.info? 3).map (fun i => (i.zero, i.size, i.bytes)) = some (some (.int .i64 0), 1, 8) := by kernel_rfl
/-- What is collected: as far as is asked for. -/
def listed (s0 s1 frm dst most : Int) : List Int := if most < 1 then places (cells s0 s1) frm dst else (places (cells s0 s1) frm dst).take most.toNat

theorem listed_all {s0 s1 frm dst most : Int} (h : most < 1 ∨ ((places (cells s0 s1) frm dst).length : Int) < most) : listed s0 s1 frm dst most = places (cells s0 s1) frm dst := by
  unfold listed
  split
  · rfl
  · exact List.take_of_length_le (by omega)
theorem listed_part {s0 s1 frm dst most : Int} {pre : List Int} (h : pre <+: places (cells s0 s1) frm dst) (h1 : 1 ≤ most) (h2 : (pre.length : Int) = most) : listed s0 s1 frm dst most = pre := by
  unfold listed
  rw [if_neg (by omega)]
  have e := List.prefix_iff_eq_take.1 h
  rw [show most.toNat = pre.length by omega]
  exact e.symm

set_option maxRecDepth 100000 in
set_option maxHeartbeats 2000000 in
theorem list_in (s0 s1 frm dst most : Int) (w : World) :
    CallsIn Fence.wide 6 Try.prog 22 #[.agg #[.int .i64 s0, .int .i64 s1], .int .i64 frm, .int .i64 dst, .int .i64 most] w fun e W' =>
      ∃ v, e = .returned v ∧ W'.ownsRow w.heap.size 3 1 v (listed s0 s1 frm dst most).length ((listed s0 s1 frm dst most).map (Value.int .i64)) ∧ Below w.heap.size w W' := by
  have hu35 := Try.underlying35
  refine callsIn_of_wp_marks Try.func22 rfl trivial ?_ rfl
  simp only [Try.ntmps22, List.size_toArray, List.length_cons, List.length_nil, Nat.reduceAdd, Nat.reduceSub, Array.replicate_succ, Array.replicate_zero, List.push_toArray, List.append_toArray, List.nil_append, List.cons_append]
  gi_wp2_with (refine ⟨trivial, ?_⟩; gi_at_call 26; refine (between_in 5 s0 s1 frm dst _).mono ?_; rintro e w' ⟨rfl, rfl⟩)
  obtain ⟨i0, hi, hz0, hz1, hz2⟩ := info_parts info3
  obtain ⟨W0, hW0⟩ : ∃ W0, (((((((w.alloc (.cells #[.int .i64 s0, .int .i64 s1] 35)).alloc (.cells #[.int .i64 most] 3)).alloc (.cells #[] 3)).alloc (.cells #[.slice (some ⟨w.heap.size + 1 + 1, 0, none⟩) 0 0] 41)).alloc (.cells #[.int .i64 s0, .int .i64 s1] 35)).alloc (.cells #[.int .i64 frm] 3)).alloc (.cells #[.int .i64 dst] 3)) = W0 := ⟨_, rfl⟩
  have hsz : W0.heap.size = w.heap.size + 7 := by rw [← hW0]; simp
  have hh : ∀ b o, b < 7 → ([Obj.cells #[.int .i64 s0, .int .i64 s1] 35, Obj.cells #[.int .i64 most] 3, Obj.cells #[] 3, Obj.cells #[.slice (some ⟨w.heap.size + 1 + 1, 0, none⟩) 0 0] 41, Obj.cells #[.int .i64 s0, .int .i64 s1] 35, Obj.cells #[.int .i64 frm] 3, Obj.cells #[.int .i64 dst] 3] : List Obj)[b]? = some o → W0.heap[w.heap.size + b]? = some o := by
    intro b o hb ho
    rw [← hW0]
    simp only [World.alloc, Array.getElem?_push, Array.size_push]
    rcases b with _ | _ | _ | _ | _ | _ | _ | b
    all_goals first | omega | (simp only [List.getElem?_cons_zero, List.getElem?_cons_succ, Option.some.injEq] at ho; subst ho; (repeat rw [if_neg (by omega)]); rw [if_pos (by omega)])
  have b1 := hh 1 _ (by omega) rfl
  have b2 := hh 2 _ (by omega) rfl
  have b3 := hh 3 _ (by omega) rfl
  have b4 := hh 4 _ (by omega) rfl
  have b5 := hh 5 _ (by omega) rfl
  have b6 := hh 6 _ (by omega) rfl
  clear hh
  have bM : W0.cell? ⟨w.heap.size + 1, 0, none⟩ = some (.int .i64 most) := by simp [World.cell?, b1]
  have bO : Boxed W0 (w.heap.size + 3) 41 (.slice (some ⟨w.heap.size + 2, 0, none⟩) 0 0) := b3
  have row0 : W0.ownsRow w.heap.size 3 1 (.slice (some ⟨w.heap.size + 2, 0, none⟩) 0 0) 0 [] := ⟨rfl, .inr ⟨_, _, _, rfl, by omega, b2, by simp, by simp, by simp⟩⟩
  have hcg : Caught W0 (w.heap.size + 4) (w.heap.size + 4 + 1) (w.heap.size + 4 + 2) s0 s1 frm dst := ⟨by simp [World.cell?, b4], by simp [World.cell?, b4], by simp [World.cell?, b5], by simp [World.cell?, b6]⟩
  have hB0 : Below w.heap.size w W0 := by
    rw [← hW0]
    exact (((((((Below.refl _ w).alloc (Nat.le_refl _) _).alloc (by simp) _).alloc (by simp; omega) _).alloc (by simp; omega) _).alloc (by simp; omega) _).alloc (by simp; omega) _).alloc (by simp; omega) _
  rw [hW0]
  clear hW0
  refine wpIn_rangeFunc_ownG (F := Fence.wide) (n := 6) rfl (by decide) (gf := 27) (lb := #[.pointer (some ⟨w.heap.size + 4, 0, none⟩), .pointer (some ⟨w.heap.size + 4 + 1, 0, none⟩), .pointer (some ⟨w.heap.size + 4 + 2, 0, none⟩)]) rfl trivial (enters_of Try.func27 (by kernel_rfl) rfl)
    (btw_stops 5 (by decide) (w.heap.size + 4) s0 s1 frm dst W0 (by omega) hcg) (fun h h' => h.trans h') (fun W l o o' hl ho _ _ => ⟨by simp [World.putObj], fun b h1 h2 => World.putObj_heap_other (by omega)⟩) (Below.refl _ _) (fun _ => rfl)
    (fun pre W => (∃ v, Boxed W (w.heap.size + 3) 41 v ∧ W.ownsRow w.heap.size 3 1 v pre.length (pre.map (Value.int .i64)) ∧ (v.ownBlock = some (w.heap.size + 2) ∨ ∃ g, v.ownBlock = some g ∧ w.heap.size + 7 ≤ g)) ∧ W.cell? ⟨w.heap.size + 1, 0, none⟩ = some (.int .i64 most) ∧ (most < 1 ∨ (pre.length : Int) < most) ∧ Below w.heap.size w W ∧ w.heap.size + 7 ≤ W.heap.size)
    (fun c pre W => (∃ v, Boxed W (w.heap.size + 3) 41 v ∧ W.ownsRow w.heap.size 3 1 v pre.length (pre.map (Value.int .i64)) ∧ True) ∧ c = .exit 0 ∧ (1 ≤ most ∧ (pre.length : Int) = most) ∧ Below w.heap.size w W)
    (OwnFrom.and (Own.from (holdsRow_own w.heap.size (w.heap.size + 3) 41 3 1 (fun (pre : List Int) => pre.length) (fun (pre : List Int) => pre.map (Value.int .i64)) (fun (pre : List Int) v => v.ownBlock = some (w.heap.size + 2) ∨ ∃ g, v.ownBlock = some g ∧ w.heap.size + 7 ≤ g)) _)
      (OwnFrom.and (Own.from (fun s A B row hs hg hr => cell_kept hs hg hr) _) (OwnFrom.and (ownFrom_pure _ _) (OwnFrom.and (ownFrom_below (Nat.le_refl _) (by omega)) (fun _ A B row hs hg _ => Nat.le_trans hs hg.size)))))
    (fun c => OwnFrom.and (Own.from (holdsRow_own w.heap.size (w.heap.size + 3) 41 3 1 (fun (pre : List Int) => pre.length) (fun (pre : List Int) => pre.map (Value.int .i64)) (fun (pre : List Int) v => True)) _)
      (OwnFrom.and (ownFrom_pure _ (fun _ => c = .exit 0)) (OwnFrom.and (ownFrom_pure _ _) (ownFrom_below (Nat.le_refl _) (by omega)))))
    ⟨⟨_, bO, row0, .inl rfl⟩, bM, by simp; omega, hB0, by omega⟩
    (fun x => { tmps := #[.agg #[.int .i64 s0, .int .i64 s1], .int .i64 frm, .int .i64 dst, .int .i64 most, .pointer (some ⟨w.heap.size, 0, none⟩), undef, undef, .pointer (some ⟨w.heap.size + 1, 0, none⟩), .slice none 0 0, .pointer (some ⟨w.heap.size + 1 + 1 + 1, 0, none⟩), .int .i64 x, .slice (some ⟨w.heap.size + 1 + 1, 0, none⟩) 0 0, .agg #[.int .i64 s0, .int .i64 s1], .int .i64 frm, .int .i64 dst, .func (.func 27) #[] #[.pointer (some ⟨w.heap.size + 4, 0, none⟩), .pointer (some ⟨w.heap.size + 4 + 1, 0, none⟩), .pointer (some ⟨w.heap.size + 4 + 2, 0, none⟩)], .int .i64 x, undef, undef, undef, undef, undef, undef, undef, undef, undef], defers := [] }) ?assign ?body ?done ?stop
  case assign =>
    intro l x W K hK
    gi_wp2
    exact hK
  case body =>
    rintro l pre x W ⟨⟨v, hv, hrow, hblk⟩, hM, hlt, hB, h7⟩ hlen
    have hc := hv.cell
    have hsz2 := hB.size
    have hne1 : some (w.heap.size + 1) ≠ v.ownBlock := by
      rcases hblk with h | ⟨g, h, hg⟩ <;> rw [h] <;> simp <;> omega
    gi_wp2_with (gi_at_builtin; go_must (refine wpListIn_append_own_at _ rfl _ _ 41 rfl w.heap.size 3 i0 (.int .i64 0) 1 8 Try.underlying41 hi hz0 hz1 hz2 rfl (by decide) _ _ _ rfl (hrow.alloc _) ⟨W.heap.size, 0, none⟩ 1 1 [.int .i64 x] rfl rfl (cell_one_new _ _ _) (by simp [Value.oneCell']) (by unfold maxLen; omega) (by omega) (by simp; omega) ?_; intro v' w1 hown' hgrow _ hat; obtain ⟨g', cap', rfl⟩ := ownsRow_succ hown'; obtain ⟨hv1, hv2, hr2, hk2, hb2⟩ := hv.appended (by decide) hrow hB.size (by omega) hown' hgrow; have hc1 := hv1.cell; have hf1 := hv1.frozen; have hM1 : w1.cell? ⟨w.heap.size + 1, 0, none⟩ = some (.int .i64 most) := (World.cell?_of_block (hgrow.block (w.heap.size + 1) (by have h3 := hv.lt; rw [World.size_alloc]; omega) hne1)).trans (pw_cell_below ((Below.refl _ _).alloc (Nat.le_refl _) _) hM)))
    all_goals
      have hkp : Kp3 (w.heap.size + 4) W (w1.setCell ⟨w.heap.size + 3, 0, none⟩ (.slice (some ⟨g', 0, none⟩) (pre.length + 1) cap')) := ⟨hb2.size, fun b hb1 hb3 => by
        have hne : some b ≠ v.ownBlock := by
          rcases hblk with h | ⟨g, h, hg⟩ <;> rw [h] <;> simp <;> omega
        exact (Below.heap_setCell w1 ⟨w.heap.size + 3, 0, none⟩ _ b (by show b ≠ w.heap.size + 3; omega)).trans ((hgrow.block b (by rw [World.size_alloc]; omega) hne).trans (Below.heap_alloc W _ b (by omega)))⟩
      have hob : (Value.slice (some ⟨g', 0, none⟩) (pre.length + 1) cap').ownBlock = some (w.heap.size + 2) ∨ ∃ g, (Value.slice (some ⟨g', 0, none⟩) (pre.length + 1) cap').ownBlock = some g ∧ w.heap.size + 7 ≤ g := by
        rcases hat with h | h
        · rw [h]; exact hblk
        · exact .inr ⟨_, h, by rw [World.size_alloc]; omega⟩
      have hrow' : (w1.setCell ⟨w.heap.size + 3, 0, none⟩ (.slice (some ⟨g', 0, none⟩) (pre.length + 1) cap')).ownsRow w.heap.size 3 1 (.slice (some ⟨g', 0, none⟩) (pre.length + 1) cap') (pre ++ [x]).length ((pre ++ [x]).map (Value.int .i64)) := by simpa using hr2
    · have hm : (pre.length : Int) + 1 = most := by simpa using (show ((pre.length : Int) + 1 == most) = true by assumption)
      exact ⟨hk2.from _, ⟨_, hv2, hrow', trivial⟩, rfl, ⟨by omega, by simp; omega⟩, hB.trans hb2⟩
    · have hm : ¬ (pre.length : Int) + 1 = most := by simpa using (show ((pre.length : Int) + 1 == most) = false by assumption)
      exact ⟨hk2.from _, hkp, ⟨_, hv2, hrow', hob⟩, (World.cell?_setCell_other w1 ⟨w.heap.size + 3, 0, none⟩ ⟨w.heap.size + 1, 0, none⟩ _ (by simp)).trans hM1, by simp; omega, hB.trans hb2, Nat.le_trans h7 hb2.size⟩
  case done =>
    rintro D ys W hD rfl ⟨⟨v, hv, hrow, _⟩, hM, hlt, hB, h7⟩ hK
    have hc := hv.cell
    have HR := Lib.hid hrow
    have HL := Lib.hid (listed_all hlt)
    clear hrow hlt
    gi_wp2
    refine ⟨by simp, .inl ⟨_, _, rfl, run_takeDeferred hK, ?_⟩⟩
    exact ⟨_, results_tmp rfl _ _ _, v, rfl, by rw [HL.out]; exact ownsRow_putObj HR.out _ hK rfl, hB.trans (belowK_b (w := w) (Nat.le_refl _) W D _ _ (by omega) hK rfl rfl)⟩
  case stop =>
    rintro D c pre W hD hpre ⟨⟨v, hv, hrow, _⟩, rfl, ⟨hm1, hm2⟩, hB⟩ hK
    have hc := hv.cell
    have HR := Lib.hid hrow
    have HL := Lib.hid (listed_part hpre hm1 hm2)
    clear hrow hm2 hpre
    gi_wp2
    refine ⟨by simp, .inl ⟨_, _, rfl, run_takeDeferred hK, ?_⟩⟩
    exact ⟨_, results_tmp rfl _ _ _, v, rfl, by rw [HL.out]; exact ownsRow_putObj HR.out _ hK rfl, hB.trans (belowK_b (w := w) (Nat.le_refl _) W D _ _ (by omega) hK rfl rfl)⟩
theorem reps_ints (l : List Int) : Reps (fun (x : Int) cs => cs = [Value.int .i64 x]) 1 l (l.map (Value.int .i64)) := by
  refine ⟨by simp, fun j p hj => ?_⟩
  obtain ⟨hl, hp⟩ := List.getElem?_eq_some_iff.1 hj
  subst hp
  rw [Nat.mul_one, List.drop_eq_getElem_cons (by simpa using hl)]
  simp
theorem list_calls (s0 s1 frm dst most : Int) (w : World) :
    Calls Try.prog 22 #[.agg #[.int .i64 s0, .int .i64 s1], .int .i64 frm, .int .i64 dst, .int .i64 most] w fun e w' => ∃ v0_ : Value, e = .returned (v0_) ∧ Kd.R (Kd.int .i64) 3 w' w.heap.size (fun _ => True) v0_ (listed s0 s1 frm dst most) ∧ Below w.heap.size w w' :=
  (callsIn_wide.1 (list_in s0 s1 frm dst most w)).mono fun _ _ ⟨v, he, hrow, hb⟩ => ⟨v, he, ⟨fun _ _ => trivial, _, hrow, reps_ints _⟩, hb⟩
theorem eqA23 (d : Nat) (w : World) (x0 y0 x1 y1 : Int) :
    (Op.equalIn (d + 2) 23 (.agg #[.int .u8 x0, .int .u8 x1]) (.agg #[.int .u8 y0, .int .u8 y1])).run Try.prog w = .ok ((x0 == y0) && (x1 == y1)) w := by
  obtain ⟨i, hi⟩ := info_of_underlying Try.underlying5
  rw [run_equalIn_array (P := Try.prog) (n := 2) (e := 5) w (d+1) _ _ Try.underlying23 hi]
  rw [show List.range 2 = [0, 1] from rfl]
  have hc : Try.prog.cellsOf 5 = 1 := by kernel_rfl
  rw [hc]
  simp only [Op.eqItems]
  go_simp
  by_cases h0 : x0 = y0 <;> by_cases h1 : x1 = y1 <;> simp [h0, h1]
attribute [go_sem high] eqA23
end Go.Proofs.Ytddccpgbjlejhaa.Hand
