/- Two clocks at once. -/
import Derived.Test.YtccmelpnmjdclaaDue
namespace Go.Proofs.Ytccmelpnmjdclaa.H
open Go.RowKit Go.Proofs.YtccmelpnmjdclaaW.PrintWords Go.Proofs.YtccmelpnmjdclaaW.PrintLast
set_option linter.unusedVariables false
set_option linter.unusedSimpArgs false
/-- Two clocks of the call's own. -/
structure Duo (w0 W : World) (g : Nat) (R : Option Nat) (n : Int) (xs : List A.S62) (g2 : Nat) (R2 : Option Nat) (n2 : Int) (ys : List A.S62) : Prop where
  a : Cb w0 W g R n xs
  b : Cb w0 W g2 R2 n2 ys
  g : g ≠ g2
  r : ∀ r, R = some r → R2 ≠ some r
section
variable {w0 W W1 w : World} {g g2 : Nat} {R R2 : Option Nat} {n n2 : Int} {xs ys : List A.S62}
theorem Duo.symm (h : Duo w0 W g R n xs g2 R2 n2 ys) : Duo w0 W g2 R2 n2 ys g R n xs := ⟨h.b, h.a, h.g.symm, fun r h1 h2 => h.r r h2 h1⟩
theorem Duo.later (h : Duo w0 W g R n xs g2 R2 n2 ys) (hb : Below W.heap.size W W1) : Duo w0 W1 g R n xs g2 R2 n2 ys := ⟨h.a.later hb, h.b.later hb, h.g, h.r⟩
theorem Duo.row {v : Value} {m : Nat} {l : List Value} (h : Duo w0 W g R n xs g2 R2 n2 ys) (ho : W.ownsRow w0.heap.size 3 1 v m l) (hg : W.grownBy W1 v.ownBlock) : Duo w0 W1 g R n xs g2 R2 n2 ys := ⟨h.a.row ho hg, h.b.row ho hg, h.g, h.r⟩
/-- A method turns the first one. -/
theorem Duo.step {R' : Option Nat} {n' : Int} {xs' : List A.S62} (h : Duo w0 W g R n xs g2 R2 n2 ys) (hk : Ck W1 g R' n' xs') (hf : Frm W W1 g R) (hn : Nx W R R') : Duo w0 W1 g R' n' xs' g2 R2 n2 ys ∧ Sty W W1 := by
  obtain ⟨h1, h2⟩ := h.a.step hk hf hn
  obtain ⟨⟨⟨v2, i2, rfl⟩, k2⟩, b2, gg2, r2⟩ := h.b
  obtain ⟨⟨v1, i1, rfl⟩, k1⟩ := h.a.k
  have hg2 : W1.heap[g2]? = W.heap[g2]? := hf.block g2 (blk_lt i2.p) h.g.symm (fun e => i1.r.ne i2.p e.symm)
  have hr2 : ∀ r, v2.ownBlock = some r → W1.heap[r]? = W.heap[r]? := fun r hr => hf.block r (i2.r.lt r hr) (fun e => i2.r.ne i1.p (by rw [hr, e])) (fun e => h.r r e.symm hr)
  refine ⟨⟨h1, ⟨⟨⟨v2, ⟨hg2.trans i2.p, i2.r.keep hr2, i2.l⟩, rfl⟩, k2⟩, h1.b, gg2, r2⟩, h.g, fun r hr e => ?_⟩, h2⟩
  rcases hn with rfl | ⟨r', rfl, hlt⟩
  · exact h.r r hr e
  · obtain rfl : r' = r := by simpa using hr
    have := i2.r.lt r' e
    omega
theorem duo_set (h : Duo w0 w g R n xs g2 R2 n2 ys) (id wait E : Int) (zs : List A.S62) (hE : setE xs id wait = E) (hL : setL xs n id wait = zs) (hw : wait ≤ 9223372036854775807) : Calls Try.prog 8 #[.pointer (some ⟨g, 0, none⟩), .int .i64 id, .int .i64 wait] w fun e w' => e = .returned (.int .i64 E) ∧ ∃ R', Duo w0 w' g R' n zs g2 R2 n2 ys ∧ Sty w w' := by
  subst hE
  subst hL
  refine (ck_set h.a.k id wait hw).mono ?_
  rintro e w' ⟨rfl, R', hk, hf, hn⟩
  exact ⟨rfl, R', h.step hk hf hn⟩
theorem duo_go (h : Duo w0 w g R n xs g2 R2 n2 ys) (ticks m : Int) (ids : List Int) (zs : List A.S62) (hn : goN n ticks = m) (hi : rung xs m = ids) (hl : leftA xs m = zs) : Calls Try.prog 13 #[.pointer (some ⟨g, 0, none⟩), .int .i64 ticks] w fun e w' => ∃ A c, e = .returned (.slice A ids.length c) ∧ w'.ownsRow w0.heap.size 3 1 (.slice A ids.length c) ids.length (nums .i64 ids) ∧ Duo w0 w' g R m zs g2 R2 n2 ys ∧ Sty w w' := by
  subst hn
  subst hi
  subst hl
  refine (ck_go h.a.k ticks).mono ?_
  rintro e w' ⟨vo, rfl, ho, hk, hf⟩
  obtain ⟨A, c, rfl⟩ := own_slice ho
  exact ⟨A, c, rfl, own_less ho h.a.b.size, h.step hk hf.widen (.inl rfl)⟩
end
theorem duo_new (w0 w : World) (hb : Below w0.heap.size w0 w) : Duo w0 ((w.alloc (.cells #[.int .i64 0, .slice none 0 0] 27)).alloc (.cells #[.int .i64 0, .slice none 0 0] 27)) w.heap.size none 0 [] (w.heap.size + 1) none 0 [] := by
  have h1 := cb_new w0 w hb
  have h2 := cb_new w0 _ h1.b
  have hs : (w.alloc (.cells #[.int .i64 0, .slice none 0 0] 27)).heap.size = w.heap.size + 1 := by rw [World.size_alloc]
  rw [hs] at h2
  exact ⟨h1.later (below_alloc (Below.refl _ _) _), h2, by omega, fun r h => by cases h⟩
/-- What has rung, and what is left. -/
structure Pt (B xs : List A.S62) (acc : List Int) (N : Int) (j : Nat) : Prop where
  p : ∃ pre, B = pre ++ xs ∧ acc = pre.map (·.f0) ∧ ∀ x ∈ pre, x.f1 ≤ N
  q : 0 < j → ∀ x ∈ xs, N < x.f1
theorem rungA_left (xs : List A.S62) (n : Int) : rungA xs n ++ leftA xs n = xs := List.takeWhile_append_dropWhile
theorem Pt.start (B : List A.S62) : Pt B B [] 0 0 := ⟨⟨[], rfl, rfl, fun x h => by simp at h⟩, fun h => absurd h (by omega)⟩
theorem mem_rungA {xs : List A.S62} {n : Int} {x : A.S62} (hs : xs.Pairwise ltA) (h : x ∈ rungA xs n) : x ∈ xs ∧ x.f1 ≤ n := by
  rw [rungA_filter hs] at h
  obtain ⟨h1, h2⟩ := List.mem_filter.1 h
  exact ⟨h1, by simpa using h2⟩
theorem Pt.step {B xs : List A.S62} {acc : List Int} {N s : Int} {j : Nat} (h : Pt B xs acc N j) (hs : xs.Pairwise ltA) (h0 : 0 ≤ s) : Pt B (leftA xs (N + s)) (acc ++ rung xs (N + s)) (N + s) (j + 1) := by
  obtain ⟨⟨pre, h1, h2, h3⟩, h4⟩ := h
  refine ⟨⟨pre ++ rungA xs (N + s), ?_, ?_, ?_⟩, fun _ => left_gt hs⟩
  · rw [List.append_assoc, rungA_left, h1]
  · rw [List.map_append, h2]
    rfl
  · intro x hx
    rcases List.mem_append.1 hx with hx | hx
    · have := h3 x hx
      omega
    · exact (mem_rungA hs hx).2
theorem rung_pre {n : Int} : ∀ {pre xs : List A.S62}, (∀ x ∈ pre, x.f1 ≤ n) → (∀ x ∈ xs, n < x.f1) → rungA (pre ++ xs) n = pre ∧ leftA (pre ++ xs) n = xs
  | [], [], _, _ => ⟨rfl, rfl⟩
  | [], y :: ys, _, h => by
    have hd : decide (y.f1 ≤ n) = false := decide_eq_false (by have := h y List.mem_cons_self; omega)
    exact ⟨by simp [rungA, List.takeWhile_cons, hd], by simp [leftA, List.dropWhile_cons, hd]⟩
  | x :: pre, xs, h1, h2 => by
    have hd : decide (x.f1 ≤ n) = true := decide_eq_true (h1 x List.mem_cons_self)
    obtain ⟨a, b⟩ := rung_pre (fun y hy => h1 y (List.mem_cons_of_mem _ hy)) h2
    unfold rungA at a ⊢
    unfold leftA at b ⊢
    rw [List.cons_append, List.takeWhile_cons, List.dropWhile_cons, hd]
    exact ⟨by simp [a], by simp [b]⟩
theorem Pt.fin {B xs : List A.S62} {acc : List Int} {N : Int} {j : Nat} (h : Pt B xs acc N j) (hj : 0 < j) : acc = rung B N ∧ xs = leftA B N := by
  obtain ⟨⟨pre, rfl, rfl, h3⟩, h4⟩ := h
  obtain ⟨a, b⟩ := rung_pre h3 (h4 hj)
  exact ⟨by rw [rung, a], b.symm⟩
theorem Pt.len {B xs : List A.S62} {acc : List Int} {N : Int} {j : Nat} (h : Pt B xs acc N j) : xs.length + acc.length = B.length := by
  obtain ⟨⟨pre, rfl, rfl, h3⟩, h4⟩ := h
  simp
  omega
theorem Pt.mem {B xs : List A.S62} {acc : List Int} {N : Int} {j : Nat} (h : Pt B xs acc N j) {x : A.S62} (hx : x ∈ xs) : x ∈ B := by
  obtain ⟨⟨pre, rfl, rfl, h3⟩, h4⟩ := h
  exact List.mem_append_right _ hx
theorem fin_zero {B : List A.S62} {N : Int} (h : rung B N = []) : leftA B N = B := by
  have h1 : rungA B N = [] := by simpa [rung] using h
  have := rungA_left B N
  rw [h1] at this
  exact this
end Go.Proofs.Ytccmelpnmjdclaa.H
