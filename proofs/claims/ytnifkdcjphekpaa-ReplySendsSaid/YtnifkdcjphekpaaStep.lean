/- A region that draws its order and holds an append: the step; reply.place, nothing being turned. -/
import Derived.Test.YtnifkdcjphekpaaIters
import Derived.Deep.RegionLaw
namespace Go.Proofs.Ytnifkdcjphekpaa.H
open Go.RowKit Go.Proofs.YtnifkdcjphekpaaW.PrintWords Go.Proofs.YtnifkdcjphekpaaW.PrintLast
set_option linter.unusedVariables false
set_option linter.unusedSimpArgs false

theorem upon_mono {P : Program} {o o' : Oper} {a : Act} {next next' : Act → World → Prop} {Q Q' : Exit → Act → World → Prop} (hd : o.dst = o'.dst) (hn : ∀ a w, next a w → next' a w) (hQ : ∀ c a w, ¬ Q' (.panic c) a w) (hO : ¬ LetsOut Q') :
    ∀ r, o'.upon P a next Q' r → o.upon P a next' Q r := by
  intro r h
  match r, h with
  | .ok (.value v) w', h => show next' (a.put o.dst v) w'; rw [hd]; exact hn _ _ h
  | .ok .skip w', h => show next' (a.put o.dst undef) w'; rw [hd]; exact hn _ _ h
  | .ok (.defer d) w', h => show next' ({ a with defers := d :: a.defers }.put o.dst undef) w'; rw [hd]; exact hn _ _ h
  | .ok (.enter f args) w', h =>
    refine Calls.mono h ?_
    rintro e w2 h2
    cases e with
    | returned v => show next' (a.put o.dst v) w2; rw [hd]; exact hn _ _ h2
    | panicked c => exact (hQ _ _ _ h2).elim
    | outgrown => exact (hO h2).elim
  | .ok (.row row args) w', h => exact Rows.mono h (fun v w2 h2 => by rw [hd]; exact hn _ _ h2)
  | .halt (.panic v) w', h => exact (hQ _ _ _ h).elim

theorem step_append_row {P : Program} {ops : Array Oper} {o : Oper} {a : Act} {w0 W : World} {K : Act → World → Prop} {Q : Exit → Act → World → Prop} {E : Prop} (hw : Region.wanted o (yielded ops a.tmps) = true) (base : Nat) (s x : Operand) (t e : TypeId) (k : IntKind) (bytes : Nat)
    (ho : o.op = .call { callee := .builtin .append, args := #[s, x], argTypes := #[t, t] })
    (ht : P.underlying t = some (.slice e)) (hinfo : (P.info? e).map (fun i => (i.zero, i.size, i.bytes)) = some (some (.int k 0), 1, bytes)) (hb0 : 0 < bytes)
    (v : Value) (xs ys : List Int) (A : Option Addr) (m c : Nat) (hs : a.eval s = v) (hx : a.eval x = .slice A m c)
    (HO : W.ownsRow base e 1 v xs.length (Go.Proofs.YtnifkdcjphekpaaW.PrintWords.nums k xs)) (HR : ReadsInt W k A m ys) (HB : Below base w0 W) (hbase : base ≤ W.heap.size) (hl : (xs.length + m) * bytes ≤ 140737488355328)
    (h : ∀ v1 w1, w1.ownsRow base e 1 v1 (xs ++ ys).length (Go.Proofs.YtnifkdcjphekpaaW.PrintWords.nums k (xs ++ ys)) → Below base w0 w1 → W.grownBy w1 v.ownBlock → (v1.ownBlock = v.ownBlock ∨ ∃ b, v1.ownBlock = some b ∧ W.heap.size ≤ b) → K (a.put o.dst v1) w1) :
    if Region.wanted o (yielded ops a.tmps) = true then Oper.wp P o a W K Q else E := by
  rw [if_pos hw]
  have hgd : ({ o with guard := none } : Oper).guard = none := rfl
  have k := print_append_row (P := P) (ops := ops) (Q := fun e a w => e = .normal ∧ K a w) (a := a) (rest := []) (o := { o with guard := none }) (w0 := w0) base hgd s x t e k bytes ho ht hinfo hb0 v xs ys A m c hs hx HO HR HB hbase hl (fun v1 w1 h1 h2 h3 h4 => ⟨rfl, h v1 w1 h1 h2 h3 h4⟩)
  unfold wpList at k
  rw [if_pos (by simp [Region.wanted])] at k
  have hO : ¬ LetsOut (fun (e : Exit) (a : Act) (w : World) => e = .normal ∧ K a w) := by
    rintro ⟨_, _, h, _⟩
    cases h
  rcases k with k | ⟨_, k⟩
  · exact upon_mono (o' := { o with guard := none }) rfl (fun a w h => h.2) (fun c a w h => by cases h.1) hO _ k
  · exact (hO k).elim

set_option maxHeartbeats 1000000 in
theorem place_p {w : World} {g c0 : Nat} {A0 : Option Addr} {r c cur : Int} {cs : List A.S34} (hI : IsP w g A0 c0 r c cs cur) (a : Int) (h0 : 0 ≤ a) (ha : a < cs.length) :
    Calls Try.prog 27 #[.pointer (some ⟨g, 0, none⟩), .int .i64 a] w fun e w' => ∃ b, e = .returned (.slice (some ⟨b, 0, none⟩) 2 2) ∧ w'.heap[b]? = some (.cells #[.int .u8 (dig (a / 64)), .int .u8 (dig a)] 74 (0, 0)) ∧ Below w.heap.size w w' := by
  have hsm := hI.small
  have HI := Lib.hid hI
  clear hI
  go_enter Try.func27, Try.ntmps27
  go_wp2_with (first | (go_at_call 20; with_reducible refine (len_e HI.out).mono ?_; rintro e w1 ⟨rfl, rfl⟩) | (go_at_call 49; with_reducible refine (encode_calls a cs.length _ h0 ha (by omega)).mono ?_; rintro e w2 ⟨rfl, hb2⟩; have HB2 := Lib.hid hb2; clear hb2))
  go_ret
  exact ⟨_, rfl, heap_alloc_new _ _, below_alloc HB2.out _⟩
theorem reads_two {W : World} {b : Nat} {x y : Int} {t : TypeId} (h : W.heap[b]? = some (.cells #[.int .u8 x, .int .u8 y] t (0, 0))) : ReadsInt W .u8 (some ⟨b, 0, none⟩) 2 [x, y] := by
  refine ⟨rfl, by decide, fun _ => ⟨_, rfl, fun i hi => ?_⟩⟩
  obtain rfl | rfl : i = 0 ∨ i = 1 := by omega
  · exact blk_cell h 0
  · exact blk_cell h 1
theorem reads_one {W : World} {b : Nat} {x : Int} {t : TypeId} (h : W.heap[b]? = some (.cells #[.int .u8 x] t (0, 0))) : ReadsInt W .u8 (some ⟨b, 0, none⟩) 1 [x] := by
  refine ⟨rfl, by decide, fun _ => ⟨_, rfl, fun i hi => ?_⟩⟩
  obtain rfl : i = 0 := by omega
  exact blk_cell h 0
theorem hinfo5 : (Try.prog.info? 5).map (fun i => (i.zero, i.size, i.bytes)) = some (some (.int .u8 0), 1, 1) := by kernel_rfl
end Go.Proofs.Ytnifkdcjphekpaa.H
