/- WholeTalks: the plain law. -/
import Derived.Test.YtgjicigagfhgmaaBusy
import Derived.Test.YtgjicigagfhgmaaNew
namespace Go.Proofs.Ytgjicigagfhgmaa.H
open Go.RowKit Go.Proofs.YtgjicigagfhgmaaW.PrintWords Go.Proofs.YtgjicigagfhgmaaW.PrintLast
set_option linter.unusedVariables false
set_option linter.unusedSimpArgs false
/-- Words in bytes. -/
def mb (ms : List (Int × Int)) : List Int := ms.flatMap (fun m => [255, m.1, m.2])
def okm (m : Int × Int) : Prop := 251 ≤ m.1 ∧ m.1 ≤ 254 ∧ 0 ≤ m.2 ∧ m.2 < 256
def onM (s : Int) (m : Bool) (on off x : Int) : List (Int × Int) := if s = 0 then (if m then [(on, x)] else [(off, x)]) else if s = 5 then [(off, x)] else []
def offM (s : Int) (on off x : Int) : List (Int × Int) := if s = 1 then [(off, x)] else if s = 4 then [(on, x)] else []
theorem onM_b (s : Int) (m : Bool) (on off x : Int) : onB s m on off x = mb (onM s m on off x) := by
  unfold onB onM mb
  repeat' split
  all_goals rfl
theorem offM_b (s : Int) (on off x : Int) : offB s on off x = mb (offM s on off x) := by
  unfold offB offM mb
  repeat' split
  all_goals rfl
def gotM (P : Ops) (c x : Int) : List (Int × Int) := if c = 251 then onM (P.s1 x) (P.y1 x) 253 254 x else if c = 252 then offM (P.s1 x) 253 254 x else if c = 253 then onM (P.s0 x) (P.y0 x) 251 252 x else if c = 254 then offM (P.s0 x) 251 252 x else []
theorem gotM_b (P : Ops) (c x : Int) : gotB P c x = mb (gotM P c x) := by
  unfold gotB gotM
  split
  · exact onM_b _ _ _ _ _
  split
  · exact offM_b _ _ _ _
  split
  · exact onM_b _ _ _ _ _
  split
  · exact offM_b _ _ _ _
  rfl
def wOnM (s : Int) (on x : Int) : List (Int × Int) := if s = 0 then [(on, x)] else []
def wOffM (s : Int) (off x : Int) : List (Int × Int) := if s = 1 then [(off, x)] else []
def wantM (P : Ops) (c x : Int) : List (Int × Int) := if c = 251 then wOnM (P.s0 x) 251 x else if c = 252 then wOffM (P.s0 x) 252 x else if c = 253 then wOnM (P.s1 x) 253 x else wOffM (P.s1 x) 254 x
theorem wOnM_b (s on x : Int) : wOnB s on x = mb (wOnM s on x) := by
  unfold wOnB wOnM mb
  split <;> rfl
theorem wOffM_b (s off x : Int) : wOffB s off x = mb (wOffM s off x) := by
  unfold wOffB wOffM mb
  split <;> rfl
theorem wantM_b (P : Ops) (c x : Int) : wantB P c x = mb (wantM P c x) := by
  unfold wantB wantM
  split
  · exact wOnM_b _ _ _
  split
  · exact wOffM_b _ _ _
  split
  · exact wOnM_b _ _ _
  exact wOffM_b _ _ _
/-- Words in order. -/
def gots : Ops → List (Int × Int) → Ops × List (Int × Int)
  | P, [] => (P, [])
  | P, m :: ms => ((gots (got P m.1 m.2) ms).1, gotM P m.1 m.2 ++ (gots (got P m.1 m.2) ms).2)
theorem gots_snoc : ∀ (ms : List (Int × Int)) (P : Ops) (m : Int × Int), gots P (ms ++ [m]) = (got (gots P ms).1 m.1 m.2, (gots P ms).2 ++ gotM (gots P ms).1 m.1 m.2)
  | [], P, m => by simp [gots]
  | a :: ms, P, m => by
    rw [List.cons_append, gots, gots_snoc ms]
    simp [gots]
theorem gots_take (P : Ops) (ms : List (Int × Int)) (k : Nat) (h : k < ms.length) : gots P (ms.take (k + 1)) = (got (gots P (ms.take k)).1 ms[k].1 ms[k].2, (gots P (ms.take k)).2 ++ gotM (gots P (ms.take k)).1 ms[k].1 ms[k].2) := by
  rw [← List.take_append_getElem h, gots_snoc]
theorem gotM_len (P : Ops) (c x : Int) : (gotM P c x).length ≤ 1 := by
  unfold gotM onM offM
  repeat' split
  all_goals simp
theorem wantM_len (P : Ops) (c x : Int) : (wantM P c x).length ≤ 1 := by
  unfold wantM wOnM wOffM
  repeat' split
  all_goals simp
theorem gots_len : ∀ (ms : List (Int × Int)) (P : Ops), (gots P ms).2.length ≤ ms.length
  | [], P => Nat.le_refl _
  | m :: ms, P => by
    have := gots_len ms (got P m.1 m.2)
    have := gotM_len P m.1 m.2
    rw [gots, List.length_append, List.length_cons]
    omega
theorem mb_append (a b : List (Int × Int)) : mb (a ++ b) = mb a ++ mb b := by simp [mb]
theorem mb_len (a : List (Int × Int)) : (mb a).length = 3 * a.length := by
  induction a with
  | nil => rfl
  | cons m a ih => simp only [mb, List.flatMap_cons, List.length_append, List.length_cons, List.length_nil] at *; omega
/-- Both directions of a channel. -/
def cOn (b : Bool) : Int := if b then 251 else 253
def cOff (b : Bool) : Int := if b then 252 else 254
def sd (P : Ops) (b : Bool) (x : Int) : Int := if b then P.s0 x else P.s1 x
def my (P : Ops) (b : Bool) (x : Int) : Bool := if b then P.y0 x else P.y1 x
def setS (P : Ops) (b : Bool) (x v : Int) : Ops := if b then { P with s0 := upd P.s0 x v } else { P with s1 := upd P.s1 x v }
theorem sd_setS (P : Ops) (b b' : Bool) (x y v : Int) : sd (setS P b x v) b' y = if b' = b ∧ y = x then v else sd P b' y := by
  cases b <;> cases b' <;> simp [sd, setS, upd]
theorem got_on (P : Ops) (b : Bool) (x : Int) : got P (cOn b) x = setS P (!b) x (onS (sd P (!b) x) (my P (!b) x)) := by
  cases b <;> simp [got, cOn, setS, sd, my]
theorem got_off (P : Ops) (b : Bool) (x : Int) : got P (cOff b) x = setS P (!b) x (offS (sd P (!b) x)) := by
  cases b <;> simp [got, cOff, setS, sd, my]
theorem gotM_on (P : Ops) (b : Bool) (x : Int) : gotM P (cOn b) x = onM (sd P (!b) x) (my P (!b) x) (cOn (!b)) (cOff (!b)) x := by
  cases b <;> simp [gotM, cOn, cOff, sd, my]
theorem gotM_off (P : Ops) (b : Bool) (x : Int) : gotM P (cOff b) x = offM (sd P (!b) x) (cOn (!b)) (cOff (!b)) x := by
  cases b <;> simp [gotM, cOn, cOff, sd, my]
theorem want_on (P : Ops) (b : Bool) (x : Int) : want P (cOn b) x = setS P b x (wOnS (sd P b x)) := by
  cases b <;> simp [want, cOn, setS, sd]
theorem want_off (P : Ops) (b : Bool) (x : Int) : want P (cOff b) x = setS P b x (wOffS (sd P b x)) := by
  cases b <;> simp [want, cOff, setS, sd]
theorem wantM_on (P : Ops) (b : Bool) (x : Int) : wantM P (cOn b) x = wOnM (sd P b x) (cOn b) x := by
  cases b <;> simp [wantM, cOn, sd]
theorem wantM_off (P : Ops) (b : Bool) (x : Int) : wantM P (cOff b) x = wOffM (sd P b x) (cOff b) x := by
  cases b <;> simp [wantM, cOff, sd]
/-- A word's channel. -/
def isK (b : Bool) (x : Int) (m : Int × Int) : Bool := decide (m.2 = x ∧ (m.1 = cOn b ∨ m.1 = cOff b))
theorem isK_on (b b' : Bool) (x y : Int) : isK b' y (cOn b, x) = decide (b' = b ∧ y = x) := by
  cases b <;> cases b' <;> simp [isK, cOn, cOff, eq_comm]
theorem isK_off (b b' : Bool) (x y : Int) : isK b' y (cOff b, x) = decide (b' = b ∧ y = x) := by
  cases b <;> cases b' <;> simp [isK, cOn, cOff, eq_comm]
theorem okm_key {m : Int × Int} (h : okm m) : ∃ b x, 0 ≤ x ∧ x < 256 ∧ (m = (cOn b, x) ∨ m = (cOff b, x)) := by
  obtain ⟨c, x⟩ := m
  obtain ⟨h1, h2, h3, h4⟩ := h
  simp only at h1 h2 h3 h4
  obtain rfl | rfl | rfl | rfl : c = 251 ∨ c = 252 ∨ c = 253 ∨ c = 254 := by omega
  · exact ⟨true, x, h3, h4, .inl rfl⟩
  · exact ⟨true, x, h3, h4, .inr rfl⟩
  · exact ⟨false, x, h3, h4, .inl rfl⟩
  · exact ⟨false, x, h3, h4, .inr rfl⟩
theorem okm_on (b : Bool) {x : Int} (h0 : 0 ≤ x) (h1 : x < 256) : okm (cOn b, x) := by cases b <;> exact ⟨by simp [cOn, cOff], by simp [cOn, cOff], h0, h1⟩
theorem okm_off (b : Bool) {x : Int} (h0 : 0 ≤ x) (h1 : x < 256) : okm (cOff b, x) := by cases b <;> exact ⟨by simp [cOn, cOff], by simp [cOn, cOff], h0, h1⟩
/-- How a channel stands: p of its words on their way to the terminal, q to the host; its state at the host, at the terminal. -/
def Ch (la lb b : Bool) (x : Int) (p q : List (Int × Int)) (h t : Int) : Prop :=
  (p = [] ∧ q = [] ∧ (h = 0 ∧ t = 0 ∨ h = 1 ∧ t = 1)) ∨
  (p = [(cOn b, x)] ∧ q = [] ∧ (h = 3 ∨ h = 5 ∧ la = false) ∧ t = 0) ∨
  (p = [(cOff b, x)] ∧ q = [] ∧ (h = 2 ∨ h = 4 ∧ la = false) ∧ t = 1) ∨
  (p = [] ∧ q = [(cOn (!b), x)] ∧ (h = 3 ∨ h = 5 ∧ lb = false) ∧ t = 1) ∨
  (p = [] ∧ q = [(cOff (!b), x)] ∧ (h = 2 ∨ h = 3 ∨ (h = 4 ∨ h = 5) ∧ lb = false) ∧ t = 0)
structure Inv (la lb : Bool) (H T : Ops) (ms rs : List (Int × Int)) : Prop where
  c : ∀ b x, Ch la lb b x (ms.filter (isK b x)) (rs.filter (isK (!b) x)) (sd H b x) (sd T (!b) x)
  m : ∀ m ∈ ms, okm m
  r : ∀ m ∈ rs, okm m
theorem onM_ok (s : Int) (m b : Bool) {x : Int} (h0 : 0 ≤ x) (h1 : x < 256) : ∀ k ∈ onM s m (cOn b) (cOff b) x, okm k := by
  intro k hk
  unfold onM at hk
  repeat' split at hk
  all_goals simp at hk
  all_goals subst hk
  · exact okm_on b h0 h1
  · exact okm_off b h0 h1
  · exact okm_off b h0 h1
theorem offM_ok (s : Int) (b : Bool) {x : Int} (h0 : 0 ≤ x) (h1 : x < 256) : ∀ k ∈ offM s (cOn b) (cOff b) x, okm k := by
  intro k hk
  unfold offM at hk
  repeat' split at hk
  all_goals simp at hk
  all_goals subst hk
  · exact okm_off b h0 h1
  · exact okm_on b h0 h1
theorem onM_far (s : Int) (m b b' : Bool) (x y : Int) (h : ¬ (b' = b ∧ y = x)) : (onM s m (cOn b) (cOff b) x).filter (isK b' y) = [] := by
  unfold onM
  repeat' split
  all_goals simp [isK_on, isK_off, h]
theorem offM_far (s : Int) (b b' : Bool) (x y : Int) (h : ¬ (b' = b ∧ y = x)) : (offM s (cOn b) (cOff b) x).filter (isK b' y) = [] := by
  unfold offM
  repeat' split
  all_goals simp [isK_on, isK_off, h]
theorem not_key {b b' : Bool} {x y : Int} (h : ¬ (b' = b ∧ y = x)) : ¬ ((!b') = (!b) ∧ y = x) := by
  cases b <;> cases b' <;> simp_all
/-- The terminal takes a word. -/
theorem Inv.term {l : Bool} {H T : Ops} {m : Int × Int} {ms rs : List (Int × Int)} (h : Inv l l H T (m :: ms) rs) : Inv l l H (got T m.1 m.2) ms (rs ++ gotM T m.1 m.2) := by
  obtain ⟨b, x, h0, h1, hm⟩ := okm_key (h.m m List.mem_cons_self)
  have hms : ∀ m ∈ ms, okm m := fun k hk => h.m k (List.mem_cons_of_mem _ hk)
  rcases hm with rfl | rfl
  · simp only [got_on, gotM_on]
    refine ⟨fun b' y => ?_, hms, fun k hk => (List.mem_append.1 hk).elim (h.r k) (onM_ok _ _ _ h0 h1 k)⟩
    have hc := h.c b' y
    by_cases hk : b' = b ∧ y = x
    · obtain ⟨rfl, rfl⟩ := hk
      rw [List.filter_cons_of_pos (by simp [isK_on])] at hc
      rw [List.filter_append, sd_setS, if_pos ⟨rfl, rfl⟩]
      rcases hc with ⟨e, _⟩ | ⟨e, e2, e3, e4⟩ | ⟨e, _⟩ | ⟨e, _⟩ | ⟨e, _⟩
      · cases e
      · simp only [List.cons.injEq, true_and] at e
        rw [e, e2, e4]
        cases my T (!b') y
        · refine .inr (.inr (.inr (.inr ⟨rfl, ?_, ?_, rfl⟩)))
          · simp [onM, isK_off]
          · rcases e3 with e3 | ⟨e3, e5⟩
            · exact .inr (.inl e3)
            · exact .inr (.inr ⟨.inr e3, e5⟩)
        · refine .inr (.inr (.inr (.inl ⟨rfl, ?_, e3, rfl⟩)))
          simp [onM, isK_on]
      · exfalso
        cases b' <;> simp [cOn, cOff] at e
      · cases e
      · cases e
    · rw [List.filter_cons_of_neg (by rw [isK_on]; simpa using hk)] at hc
      rw [List.filter_append, onM_far _ _ _ _ _ _ (not_key hk), List.append_nil, sd_setS, if_neg (not_key hk)]
      exact hc
  · simp only [got_off, gotM_off]
    refine ⟨fun b' y => ?_, hms, fun k hk => (List.mem_append.1 hk).elim (h.r k) (offM_ok _ _ h0 h1 k)⟩
    have hc := h.c b' y
    by_cases hk : b' = b ∧ y = x
    · obtain ⟨rfl, rfl⟩ := hk
      rw [List.filter_cons_of_pos (by simp [isK_off])] at hc
      rw [List.filter_append, sd_setS, if_pos ⟨rfl, rfl⟩]
      rcases hc with ⟨e, _⟩ | ⟨e, _⟩ | ⟨e, e2, e3, e4⟩ | ⟨e, _⟩ | ⟨e, _⟩
      · cases e
      · exfalso
        cases b' <;> simp [cOn, cOff] at e
      · simp only [List.cons.injEq, true_and] at e
        rw [e, e2, e4]
        refine .inr (.inr (.inr (.inr ⟨rfl, ?_, ?_, rfl⟩)))
        · simp [offM, isK_off]
        · rcases e3 with e3 | ⟨e3, e5⟩
          · exact .inl e3
          · exact .inr (.inr ⟨.inl e3, e5⟩)
      · cases e
      · cases e
    · rw [List.filter_cons_of_neg (by rw [isK_off]; simpa using hk)] at hc
      rw [List.filter_append, offM_far _ _ _ _ _ (not_key hk), List.append_nil, sd_setS, if_neg (not_key hk)]
      exact hc
/-- The host takes a word. -/
theorem Inv.host {lb : Bool} {H T : Ops} {m : Int × Int} {ms rs : List (Int × Int)} (h : Inv true lb H T ms (m :: rs)) : Inv true lb (got H m.1 m.2) T (ms ++ gotM H m.1 m.2) rs ∧ (lb = true → gotM H m.1 m.2 = []) := by
  obtain ⟨b0, x, h0, h1, hm⟩ := okm_key (h.r m List.mem_cons_self)
  obtain ⟨b, rfl⟩ : ∃ b, b0 = !b := ⟨!b0, by simp⟩
  have hrs : ∀ m ∈ rs, okm m := fun k hk => h.r k (List.mem_cons_of_mem _ hk)
  have hnn : (!(!b)) = b := by simp
  rcases hm with rfl | rfl
  · simp only [got_on, gotM_on, hnn]
    have hx := h.c b x
    rw [List.filter_cons_of_pos (by simp [isK_on])] at hx
    have key : (ms.filter (isK b x) = [] ∧ rs.filter (isK (!b) x) = [] ∧ (sd H b x = 3 ∨ sd H b x = 5 ∧ lb = false) ∧ sd T (!b) x = 1) := by
      rcases hx with ⟨_, e, _⟩ | ⟨_, e, _⟩ | ⟨_, e, _⟩ | ⟨e1, e2, e3, e4⟩ | ⟨_, e, _⟩
      · cases e
      · cases e
      · cases e
      · simp only [List.cons.injEq, true_and] at e2
        exact ⟨e1, e2, e3, e4⟩
      · exfalso
        cases b <;> simp [cOn, cOff] at e
    obtain ⟨k1, k2, k3, k4⟩ := key
    refine ⟨⟨fun b' y => ?_, fun k hk => (List.mem_append.1 hk).elim (h.m k) (onM_ok _ _ _ h0 h1 k), hrs⟩, fun hlb => ?_⟩
    · by_cases hk : b' = b ∧ y = x
      · obtain ⟨rfl, rfl⟩ := hk
        rw [List.filter_append, sd_setS, if_pos ⟨rfl, rfl⟩, k1, k2, k4]
        rcases k3 with k3 | ⟨k3, k5⟩
        · rw [k3]
          exact .inl ⟨by simp [onM], rfl, .inr ⟨rfl, rfl⟩⟩
        · rw [k3]
          refine .inr (.inr (.inl ⟨?_, rfl, .inl rfl, rfl⟩))
          simp [onM, isK_off]
      · have hc := h.c b' y
        rw [List.filter_cons_of_neg (by rw [isK_on]; simpa using not_key hk)] at hc
        rw [List.filter_append, onM_far _ _ _ _ _ _ hk, List.append_nil, sd_setS, if_neg hk]
        exact hc
    · rcases k3 with k3 | ⟨k3, k5⟩
      · rw [k3]; rfl
      · rw [hlb] at k5; cases k5
  · simp only [got_off, gotM_off, hnn]
    have hx := h.c b x
    rw [List.filter_cons_of_pos (by simp [isK_off])] at hx
    have key : (ms.filter (isK b x) = [] ∧ rs.filter (isK (!b) x) = [] ∧ (sd H b x = 2 ∨ sd H b x = 3 ∨ (sd H b x = 4 ∨ sd H b x = 5) ∧ lb = false) ∧ sd T (!b) x = 0) := by
      rcases hx with ⟨_, e, _⟩ | ⟨_, e, _⟩ | ⟨_, e, _⟩ | ⟨_, e, _⟩ | ⟨e1, e2, e3, e4⟩
      · cases e
      · cases e
      · cases e
      · exfalso
        cases b <;> simp [cOn, cOff] at e
      · simp only [List.cons.injEq, true_and] at e2
        exact ⟨e1, e2, e3, e4⟩
    obtain ⟨k1, k2, k3, k4⟩ := key
    refine ⟨⟨fun b' y => ?_, fun k hk => (List.mem_append.1 hk).elim (h.m k) (offM_ok _ _ h0 h1 k), hrs⟩, fun hlb => ?_⟩
    · by_cases hk : b' = b ∧ y = x
      · obtain ⟨rfl, rfl⟩ := hk
        rw [List.filter_append, sd_setS, if_pos ⟨rfl, rfl⟩, k1, k2, k4]
        rcases k3 with k3 | k3 | ⟨k3 | k3, k5⟩
        · rw [k3]
          exact .inl ⟨by simp [offM], rfl, .inl ⟨rfl, rfl⟩⟩
        · rw [k3]
          exact .inl ⟨by simp [offM], rfl, .inl ⟨rfl, rfl⟩⟩
        · rw [k3]
          refine .inr (.inl ⟨?_, rfl, .inl rfl, rfl⟩)
          simp [offM, isK_on]
        · rw [k3]
          exact .inl ⟨by simp [offM], rfl, .inl ⟨rfl, rfl⟩⟩
      · have hc := h.c b' y
        rw [List.filter_cons_of_neg (by rw [isK_off]; simpa using not_key hk)] at hc
        rw [List.filter_append, offM_far _ _ _ _ _ hk, List.append_nil, sd_setS, if_neg hk]
        exact hc
    · rcases k3 with k3 | k3 | ⟨k3, k5⟩
      · rw [k3]; rfl
      · rw [k3]; rfl
      · rw [hlb] at k5; cases k5
/-- The host has a wish. -/
theorem Inv.want {H T : Ops} {ms : List (Int × Int)} (h : Inv false false H T ms []) (c x : Int) (hc : okm (c, x)) : Inv false false (want H c x) T (ms ++ wantM H c x) [] := by
  obtain ⟨b, x', h0, h1, hm⟩ := okm_key hc
  clear hc
  rcases hm with hm | hm
  · injection hm with e1 e2
    subst e1
    subst e2
    simp only [want_on, wantM_on]
    refine ⟨fun b' y => ?_, fun k hk => (List.mem_append.1 hk).elim (h.m k) (fun hk => ?_), h.r⟩
    · have hc := h.c b' y
      by_cases hk : b' = b ∧ y = x
      · obtain ⟨rfl, rfl⟩ := hk
        rw [List.filter_append, sd_setS, if_pos ⟨rfl, rfl⟩]
        rcases hc with ⟨e1, e2, ⟨e3, e4⟩ | ⟨e3, e4⟩⟩ | ⟨e1, e2, e3 | ⟨e3, _⟩, e4⟩ | ⟨e1, e2, e3 | ⟨e3, _⟩, e4⟩ | ⟨_, e, _⟩ | ⟨_, e, _⟩
        · rw [e1, e2, e3, e4]
          exact .inr (.inl ⟨by simp [wOnM, isK_on], rfl, .inl rfl, rfl⟩)
        · rw [e1, e2, e3, e4]
          exact .inl ⟨by simp [wOnM], rfl, .inr ⟨rfl, rfl⟩⟩
        · rw [e1, e2, e3, e4]
          exact .inr (.inl ⟨by simp [wOnM], rfl, .inl rfl, rfl⟩)
        · rw [e1, e2, e3, e4]
          exact .inr (.inl ⟨by simp [wOnM], rfl, .inl rfl, rfl⟩)
        · rw [e1, e2, e3, e4]
          exact .inr (.inr (.inl ⟨by simp [wOnM], rfl, .inr ⟨rfl, rfl⟩, rfl⟩))
        · rw [e1, e2, e3, e4]
          exact .inr (.inr (.inl ⟨by simp [wOnM], rfl, .inr ⟨rfl, rfl⟩, rfl⟩))
        · cases e
        · cases e
      · rw [List.filter_append, sd_setS, if_neg hk, show (wOnM (sd H b x) (cOn b) x).filter (isK b' y) = [] by unfold wOnM; split <;> simp [isK_on, hk], List.append_nil]
        exact hc
    · unfold wOnM at hk
      split at hk
      · obtain rfl : k = (cOn b, x) := by simpa using hk
        exact okm_on b h0 h1
      · simp at hk
  · injection hm with e1 e2
    subst e1
    subst e2
    simp only [want_off, wantM_off]
    refine ⟨fun b' y => ?_, fun k hk => (List.mem_append.1 hk).elim (h.m k) (fun hk => ?_), h.r⟩
    · have hc := h.c b' y
      by_cases hk : b' = b ∧ y = x
      · obtain ⟨rfl, rfl⟩ := hk
        rw [List.filter_append, sd_setS, if_pos ⟨rfl, rfl⟩]
        rcases hc with ⟨e1, e2, ⟨e3, e4⟩ | ⟨e3, e4⟩⟩ | ⟨e1, e2, e3 | ⟨e3, _⟩, e4⟩ | ⟨e1, e2, e3 | ⟨e3, _⟩, e4⟩ | ⟨_, e, _⟩ | ⟨_, e, _⟩
        · rw [e1, e2, e3, e4]
          exact .inl ⟨by simp [wOffM], rfl, .inl ⟨rfl, rfl⟩⟩
        · rw [e1, e2, e3, e4]
          exact .inr (.inr (.inl ⟨by simp [wOffM, isK_off], rfl, .inl rfl, rfl⟩))
        · rw [e1, e2, e3, e4]
          exact .inr (.inl ⟨by simp [wOffM], rfl, .inr ⟨rfl, rfl⟩, rfl⟩)
        · rw [e1, e2, e3, e4]
          exact .inr (.inl ⟨by simp [wOffM], rfl, .inr ⟨rfl, rfl⟩, rfl⟩)
        · rw [e1, e2, e3, e4]
          exact .inr (.inr (.inl ⟨by simp [wOffM], rfl, .inl rfl, rfl⟩))
        · rw [e1, e2, e3, e4]
          exact .inr (.inr (.inl ⟨by simp [wOffM], rfl, .inl rfl, rfl⟩))
        · cases e
        · cases e
      · rw [List.filter_append, sd_setS, if_neg hk, show (wOffM (sd H b x) (cOff b) x).filter (isK b' y) = [] by unfold wOffM; split <;> simp [isK_off, hk], List.append_nil]
        exact hc
    · unfold wOffM at hk
      split at hk
      · obtain rfl : k = (cOff b, x) := by simpa using hk
        exact okm_off b h0 h1
      · simp at hk
theorem Inv.start (a b c d : List Int) : Inv false false (newOps a b) (newOps c d) [] [] := ⟨fun b x => .inl ⟨rfl, rfl, .inl ⟨by cases b <;> rfl, by cases b <;> rfl⟩⟩, fun m h => by simp at h, fun m h => by simp at h⟩
theorem Inv.terms {l : Bool} : ∀ {ms : List (Int × Int)} {H T : Ops} {rs : List (Int × Int)}, Inv l l H T ms rs → Inv l l H (gots T ms).1 [] (rs ++ (gots T ms).2)
  | [], H, T, rs, h => by simpa [gots] using h
  | m :: ms, H, T, rs, h => by
    have := h.term.terms
    rw [List.append_assoc] at this
    exact this
theorem Inv.hosts {lb : Bool} : ∀ {rs : List (Int × Int)} {H T : Ops} {ms : List (Int × Int)}, Inv true lb H T ms rs → Inv true lb (gots H rs).1 T (ms ++ (gots H rs).2) [] ∧ (lb = true → (gots H rs).2 = [])
  | [], H, T, ms, h => by simpa [gots] using h
  | m :: rs, H, T, ms, h => by
    have h1 := h.host.1.hosts
    rw [List.append_assoc] at h1
    exact ⟨h1.1, fun e => by show gotM H m.1 m.2 ++ _ = []; rw [h.host.2 e, h1.2 e]; rfl⟩
theorem Ch.la {la la' lb b : Bool} {x : Int} {q : List (Int × Int)} {h t : Int} (k : Ch la lb b x [] q h t) : Ch la' lb b x [] q h t := by
  rcases k with k | ⟨e, _⟩ | ⟨e, _⟩ | k | k
  · exact .inl k
  · cases e
  · cases e
  · exact .inr (.inr (.inr (.inl k)))
  · exact .inr (.inr (.inr (.inr k)))
theorem Ch.lb {la lb lb' b : Bool} {x : Int} {p : List (Int × Int)} {h t : Int} (k : Ch la lb b x p [] h t) : Ch la lb' b x p [] h t := by
  rcases k with k | k | k | ⟨_, e, _⟩ | ⟨_, e, _⟩
  · exact .inl k
  · exact .inr (.inl k)
  · exact .inr (.inr (.inl k))
  · cases e
  · cases e
theorem Ch.weak {la lb b : Bool} {x : Int} {p : List (Int × Int)} {h t : Int} (k : Ch la lb b x p [] h t) : Ch false false b x p [] h t := by
  rcases k with k | ⟨e1, e2, e3, e4⟩ | ⟨e1, e2, e3, e4⟩ | ⟨_, e, _⟩ | ⟨_, e, _⟩
  · exact .inl k
  · exact .inr (.inl ⟨e1, e2, e3.imp id (fun e => ⟨e.1, rfl⟩), e4⟩)
  · exact .inr (.inr (.inl ⟨e1, e2, e3.imp id (fun e => ⟨e.1, rfl⟩), e4⟩))
  · cases e
  · cases e
/-- A turn. -/
def turnT (T : Ops) (ms : List (Int × Int)) : Ops := (gots T ms).1
def turnS (T : Ops) (ms : List (Int × Int)) : List (Int × Int) := (gots T ms).2
theorem Inv.turn {l : Bool} {H T : Ops} {ms : List (Int × Int)} (h : Inv l l H T ms []) : Inv true true (turnT H (turnS T ms)) (turnT T ms) (turnS H (turnS T ms)) [] ∧ (l = true → turnS H (turnS T ms) = []) := by
  have h1 := h.terms
  rw [List.nil_append] at h1
  have h2 : Inv true l H (gots T ms).1 [] (gots T ms).2 := ⟨fun b x => (h1.c b x).la, h1.m, h1.r⟩
  have h3 := h2.hosts
  rw [List.nil_append] at h3
  exact ⟨⟨fun b x => (h3.1.c b x).lb, h3.1.m, h3.1.r⟩, h3.2⟩
theorem Inv.weak {la lb : Bool} {H T : Ops} {ms : List (Int × Int)} (h : Inv la lb H T ms []) : Inv false false H T ms [] := ⟨fun b x => (h.c b x).weak, h.m, h.r⟩
theorem Inv.rest {la lb : Bool} {H T : Ops} (h : Inv la lb H T [] []) (b : Bool) (x : Int) : sd H b x = sd T (!b) x ∧ sd H b x ≤ 1 := by
  rcases h.c b x with ⟨_, _, ⟨e1, e2⟩ | ⟨e1, e2⟩⟩ | ⟨e, _⟩ | ⟨e, _⟩ | ⟨_, e, _⟩ | ⟨_, e, _⟩
  · rw [e1, e2]; decide
  · rw [e1, e2]; decide
  · cases e
  · cases e
  · cases e
  · cases e
theorem turn_len (H T : Ops) (ms : List (Int × Int)) : (turnS H (turnS T ms)).length ≤ ms.length := Nat.le_trans (gots_len _ _) (gots_len _ _)
end Go.Proofs.Ytgjicigagfhgmaa.H
