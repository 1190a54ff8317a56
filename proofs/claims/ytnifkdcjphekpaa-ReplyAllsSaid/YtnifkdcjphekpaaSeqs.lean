/- field.All, field.Places: what they hand back; their sequences. -/
import Derived.Test.YtnifkdcjphekpaaPlaces
namespace Go.Proofs.Ytnifkdcjphekpaa.H
open Go.RowKit Go.Proofs.YtnifkdcjphekpaaW.PrintWords Go.Proofs.YtnifkdcjphekpaaW.PrintLast
set_option linter.unusedVariables false
set_option linter.unusedSimpArgs false
attribute [local go_sem] Oper.semAt_some

/-- A place of a plane. -/
abbrev Pl (cs : List A.S34) : Type := { x : Int // 0 ≤ x ∧ x < cs.length }
def vals {cs : List A.S34} (l : List (Pl cs)) : List Int := l.map (fun x => x.1)
theorem vals_snoc {cs : List A.S34} (l : List (Pl cs)) (x : Pl cs) : vals (l ++ [x]) = vals l ++ [x.1] := by simp [vals]
theorem all_stops (n : Nat) (hn : 1 ≤ n) (pb g c0 : Nat) (A0 : Option Addr) (r c cur : Int) (cs : List A.S34) (w0 w : World) (hI : IsP w0 g A0 c0 r c cs cur) (L : List Nat) (hL : pb ∈ L) (hW : Below w0.heap.size w0 w) (hB : w.heap[pb]? = some (.cells #[.pointer (some ⟨g, 0, none⟩)] 28 (0, 0))) :
    SeqStopsK Fence.wide n Try.prog 65 #[.pointer (some ⟨pb, 0, none⟩)] (fun x : Pl cs => #[fldV cs x.1]) (KpB w0 L) (fun ys => vals ys = startsTo cs cs.length) (fun pre => vals pre <+: startsTo cs cs.length) 4096 w := fun l J Jx W hWW hJ _ hY h0 => by
  refine (all1_in n hn l pb g c0 A0 r c cur cs w0 hI L hL (fun pre W => ∃ p : List (Pl cs), vals p = pre ∧ J p W) (fun pre W => ∃ p : List (Pl cs), vals p = pre ∧ Jx p W) W ?_ ?_ (hW.trans (hWW.mono hW.size)) (blk_below hB hWW) ⟨[], rfl, h0⟩).mono ?_
  · rintro s A B row ⟨p, rfl, hp⟩ hg hr
    exact ⟨p, rfl, hJ p A B row hp hg hr⟩
  · rintro pre x W1 ⟨p, rfl, hp⟩ hlen hx0 hx1
    obtain ⟨fn, tmps, assign, body, hy, hR⟩ := hY p ⟨x, hx0, hx1⟩ W1 hp (by simpa [vals] using hlen)
    refine ⟨fn, tmps, assign, body, hy, hR.mono ?_⟩
    rintro e W2 (⟨rfl, h1, h2⟩ | ⟨rfl, h1⟩)
    · exact .inl ⟨rfl, ⟨_, vals_snoc _ _, h1⟩, h2⟩
    · exact .inr ⟨rfl, ⟨_, vals_snoc _ _, h1⟩⟩
  · rintro e W2 ⟨hv, ⟨ys, rfl, p, hp, hj⟩ | ⟨pre, hpre, p, rfl, hj⟩⟩
    · exact ⟨hv, .inl ⟨p, hp, hj⟩⟩
    · exact ⟨hv, .inr ⟨p, hpre, hj⟩⟩
theorem places_stops (n : Nat) (hn : 1 ≤ n) (fb pb g c0 : Nat) (A0 : Option Addr) (r c cur : Int) (cs : List A.S34) (a len at_ : Int) (ha0 : 0 ≤ a) (ha1 : a < cs.length) (w0 w : World) (hI : IsP w0 g A0 c0 r c cs cur) (L : List Nat) (hL : pb ∈ L) (hLf : fb ∈ L) (hW : Below w0.heap.size w0 w)
    (hB : w.heap[pb]? = some (.cells #[.pointer (some ⟨g, 0, none⟩)] 28 (0, 0))) (hF : w.heap[fb]? = some (.cells #[.int .i64 a, .int .i64 len, .int .u8 at_] 86 (0, 0))) :
    SeqStopsK Fence.wide n Try.prog 67 #[.pointer (some ⟨fb, 0, none⟩), .pointer (some ⟨pb, 0, none⟩)] (fun x : Pl cs => #[Value.int .i64 x.1]) (KpB w0 L) (fun ys => vals ys = placesTo cs a (fldMany cs len)) (fun pre => vals pre <+: placesTo cs a (fldMany cs len)) 4096 w := fun l J Jx W hWW hJ _ hY h0 => by
  refine (places1_in n hn l fb pb g c0 A0 r c cur cs a len at_ ha0 ha1 w0 hI L hL hLf (fun pre W => ∃ p : List (Pl cs), vals p = pre ∧ J p W) (fun pre W => ∃ p : List (Pl cs), vals p = pre ∧ Jx p W) W ?_ ?_ (hW.trans (hWW.mono hW.size)) (blk_below hB hWW) (blk_below hF hWW) ⟨[], rfl, h0⟩).mono ?_
  · rintro s A B row ⟨p, rfl, hp⟩ hg hr
    exact ⟨p, rfl, hJ p A B row hp hg hr⟩
  · rintro pre x W1 ⟨p, rfl, hp⟩ hlen hx0 hx1
    obtain ⟨fn, tmps, assign, body, hy, hR⟩ := hY p ⟨x, hx0, hx1⟩ W1 hp (by simpa [vals] using hlen)
    refine ⟨fn, tmps, assign, body, hy, hR.mono ?_⟩
    rintro e W2 (⟨rfl, h1, h2⟩ | ⟨rfl, h1⟩)
    · exact .inl ⟨rfl, ⟨_, vals_snoc _ _, h1⟩, h2⟩
    · exact .inr ⟨rfl, ⟨_, vals_snoc _ _, h1⟩⟩
  · rintro e W2 ⟨hv, ⟨ys, rfl, p, hp, hj⟩ | ⟨pre, hpre, p, rfl, hj⟩⟩
    · exact ⟨hv, .inl ⟨p, hp, hj⟩⟩
    · exact ⟨hv, .inr ⟨p, hpre, hj⟩⟩
set_option maxHeartbeats 1000000 in
theorem all_c (n : Nat) (g : Nat) (w : World) :
    CallsIn Fence.wide n Try.prog 51 #[.pointer (some ⟨g, 0, none⟩)] w fun e w' => e = .returned (.func (.func 65) #[] #[.pointer (some ⟨w.heap.size, 0, none⟩)]) ∧ w' = w.alloc (.cells #[.pointer (some ⟨g, 0, none⟩)] 28) := by
  refine callsIn_of_wp Try.func51 rfl trivial ?_ rfl
  simp only [Try.ntmps51, List.size_toArray, List.length_cons, List.length_nil, Nat.reduceAdd, Nat.reduceSub, Array.replicate_succ, Array.replicate_zero, List.push_toArray, List.append_toArray, List.nil_append, List.cons_append]
  gi_wp2
  go_ret
  exact ⟨rfl, rfl⟩
set_option maxHeartbeats 1000000 in
theorem places_c (n : Nat) (g : Nat) (a len at_ : Int) (w : World) :
    CallsIn Fence.wide n Try.prog 55 #[.pointer (some ⟨g, 0, none⟩), .agg #[.int .i64 a, .int .i64 len, .int .u8 at_]] w fun e w' => e = .returned (.func (.func 67) #[] #[.pointer (some ⟨w.heap.size + 1, 0, none⟩), .pointer (some ⟨w.heap.size, 0, none⟩)]) ∧
      w' = (w.alloc (.cells #[.pointer (some ⟨g, 0, none⟩)] 28)).alloc (.cells #[.int .i64 a, .int .i64 len, .int .u8 at_] 86) := by
  have hu86 := Try.underlying86
  refine callsIn_of_wp Try.func55 rfl trivial ?_ rfl
  simp only [Try.ntmps55, List.size_toArray, List.length_cons, List.length_nil, Nat.reduceAdd, Nat.reduceSub, Array.replicate_succ, Array.replicate_zero, List.push_toArray, List.append_toArray, List.nil_append, List.cons_append]
  gi_wp2
  go_ret
  exact ⟨rfl, rfl⟩
end Go.Proofs.Ytnifkdcjphekpaa.H
