/- What can be read as data is told by the kinds of the printed words: an argument's cells, read, give a list or a struct of which the printed contracts speak. -/
import Derived.Test.YtgjicigagfhgmaaWWords
import Derived.ChangeArms
import Derived.ChangeSlices
import Derived.ProofKit
import Derived.SizedLaws
import Derived.Deep.Slices
namespace Go.Proofs.YtgjicigagfhgmaaO
open Go.RowKit Go.ChangeShapes Go.WideShapes Go.Proofs.YtgjicigagfhgmaaW.PrintWords

/-- Whatever reads as data of type T is told by the kind d, and what it tells is good. -/
structure Opens {α : Type} (P : Program) (T : TypeId) (d : Kd α) (good : α → Prop) : Prop where
  out : ∀ (H : Type) (enc : TypeId × Value → H) (w : World) (base : Nat) (spare : Nat → Bool) (held : Bool) (fuel : Nat) (cs : List Value) (x : DataW H × List MemPlace),
    DataW.trod enc P w base spare held fuel T cs = some x → ∃ y, d.K w y cs ∧ good y

structure OpensF {α : Type} (P : Program) (fs : List Field) (off : Nat) (d : Kd α) (good : α → Prop) : Prop where
  out : ∀ (H : Type) (enc : TypeId × Value → H) (w : World) (base : Nat) (spare : Nat → Bool) (held : Bool) (fuel : Nat) (cs : List Value),
    cs.length = off + d.sz → (∀ f, f ∈ fs → ∃ x, DataW.trod enc P w base spare held fuel f.type ((cs.drop f.offset).take (P.cellsOf f.type)) = some x) → ∃ y, d.K w y (cs.drop off) ∧ good y

variable {P : Program}

theorem Opens.imp {α : Type} {T : TypeId} {d : Kd α} {g g' : α → Prop} (h : Opens P T d g) (hg : ∀ x, g x → g' x) : Opens P T d g' := by
  constructor
  intro H enc w base spare held fuel cs x hx
  obtain ⟨y, hy, gy⟩ := h.out H enc w base spare held fuel cs x hx
  exact ⟨y, hy, hg y gy⟩

theorem opens_int {T : TypeId} {k : IntKind} (ht : P.underlying T = some (.int k)) : Opens P T (Kd.int k) (fun n => (Lit.int k n).wf = true) := by
  constructor
  intro H enc w base spare held fuel cs x hx
  obtain ⟨n, rfl, rfl, hw⟩ := DataW.trod_int ht hx
  exact ⟨n, rfl, hw⟩

theorem opens_bool {T : TypeId} (ht : P.underlying T = some .bool) : Opens P T Kd.bool (fun _ => True) := by
  constructor
  intro H enc w base spare held fuel cs x hx
  cases fuel with
  | zero => simp [DataW.trod] at hx
  | succ n =>
    have key : ∃ b, cs = [.bool b] := by
      unfold DataW.trod at hx
      rw [ht] at hx
      split at hx <;> simp_all
    obtain ⟨b, rfl⟩ := key
    exact ⟨b, rfl, trivial⟩

theorem opens_string {T : TypeId} (ht : P.underlying T = some .string) : Opens P T Kd.string (fun s => s.size ≤ maxLen) := by
  constructor
  intro H enc w base spare held fuel cs x hx
  cases fuel with
  | zero => simp [DataW.trod] at hx
  | succ n =>
    unfold DataW.trod at hx
    rw [ht] at hx
    split at hx <;> simp_all
    exact ⟨_, rfl, hx.1⟩

theorem cells?_get {w : World} {base : Nat} {a : Addr} {n : Nat} {cs : List Value} (h : w.cells? base a n = some cs) : cs.length = n ∧ ∀ i u, cs[i]? = some u → w.cell? (a.add i) = some u := by
  unfold World.cells? at h
  split at h
  · have hl := mapM_some_length h
    refine ⟨by simpa using hl, fun i u hu => ?_⟩
    have hi : i < n := by
      have := (List.getElem?_eq_some_iff.1 hu).1
      have h2 : cs.length = n := by simpa using hl
      omega
    have := mapM_some_get h i i (by simp [hi])
    rw [hu] at this
    exact this
  · cases h

theorem opens_slice {α : Type} {T e : TypeId} {d : Kd α} {g : α → Prop} (ht : P.underlying T = some (.slice e)) (hc : P.cellsOf e = d.sz) (he : Opens P e d g) :
    Opens P T (Kd.slice e d) (fun l => l.length ≤ maxLen ∧ ∀ y, y ∈ l → g y) := by
  constructor
  intro H enc w base spare held fuel cs x hx
  rcases DataW.trod_slice ht hx with ⟨rfl, rfl⟩ | ⟨a, len, cap, elems, rest, n, _, rfl, rfl, hb, hl, hm, hlen, hel, hsp, hns⟩
  · exact ⟨[], ⟨none, 0, rfl, by simp, Kd.C_nil _ _⟩, by simp, by simp⟩
  have each : ∀ i, i < len → ∃ y : α, (∃ c, c.length = d.sz ∧ d.K w y c ∧ ∀ j u, c[j]? = some u → w.cell? (a.add (i * d.sz + j)) = some u) ∧ g y := by
    intro i hi
    have h1 := hel i hi
    have hlt : i < elems.length := by omega
    rw [List.getElem?_eq_getElem hlt, Option.bind_eq_some_iff] at h1
    obtain ⟨cs', hcs, hy⟩ := h1
    obtain ⟨y, hk, gy⟩ := he.out H enc w base spare held n cs' _ hy
    obtain ⟨hl', hget⟩ := cells?_get hcs
    refine ⟨y, ⟨cs', by rw [hl', hc], hk, fun j u hu => ?_⟩, gy⟩
    have := hget j u hu
    rw [hc, Deep.add_add] at this
    exact this
  rcases Nat.eq_zero_or_pos len with hz | hz
  · subst hz
    exact ⟨[], ⟨some a, cap, rfl, by simp, ⟨rfl, by simp, fun hn => absurd hn (by simp)⟩⟩, by simp, by simp⟩
  haveI : Inhabited α := ⟨Classical.choose (each 0 hz)⟩
  obtain ⟨f, hf⟩ := Deep.choose_lt each
  refine ⟨(List.range len).map f, ⟨some a, cap, by simp, by simpa using hl, ?_⟩, by simp; omega, ?_⟩
  · refine ⟨rfl, by simp; unfold maxLen at hm; omega, fun hn => ⟨a, rfl, fun j p hp => ?_⟩⟩
    have hj : j < len := by
      have := (List.getElem?_eq_some_iff.1 hp).1
      simpa using this
    have hp' : f j = p := by simpa [hj] using hp
    subst hp'
    exact (hf j hj).1
  · intro y hy
    obtain ⟨i, hi, rfl⟩ := List.mem_map.1 hy
    exact (hf i (List.mem_range.1 hi)).2

theorem opensF_one {α : Type} {f : Field} {off : Nat} {d : Kd α} {g : α → Prop} (ho : f.offset = off) (hc : P.cellsOf f.type = d.sz) (h : Opens P f.type d g) : OpensF P [f] off d g := by
  constructor
  intro H enc w base spare held fuel cs hl hx
  obtain ⟨x, hx⟩ := hx f (by simp)
  rw [ho, hc, List.take_of_length_le (by simp; omega)] at hx
  exact h.out H enc w base spare held fuel _ _ hx

theorem opensF_cons {α β : Type} {f : Field} {fs : List Field} {off : Nat} {d0 : Kd α} {d1 : Kd β} {g0 : α → Prop} {g1 : β → Prop} (ho : f.offset = off) (hc : P.cellsOf f.type = d0.sz) (h0 : Opens P f.type d0 g0)
    (h1 : OpensF P fs (off + d0.sz) d1 g1) : OpensF P (f :: fs) off (Kd.pair d0 d1) (fun p => g0 p.1 ∧ g1 p.2) := by
  constructor
  intro H enc w base spare held fuel cs hl hx
  have hl' : cs.length = off + (d0.sz + d1.sz) := hl
  obtain ⟨x, hx0⟩ := hx f (by simp)
  rw [ho, hc] at hx0
  obtain ⟨y0, hk0, gy0⟩ := h0.out H enc w base spare held fuel _ _ hx0
  obtain ⟨y1, hk1, gy1⟩ := h1.out H enc w base spare held fuel cs (by omega) (fun f' hf' => hx f' (List.mem_cons_of_mem _ hf'))
  refine ⟨(y0, y1), ⟨_, _, ?_, hk0, hk1⟩, gy0, gy1⟩
  rw [← List.drop_drop, List.take_append_drop]

theorem opens_struct {α : Type} {T : TypeId} {fs : Array Field} {d : Kd α} {g : α → Prop} (ht : P.underlying T = some (.struct fs)) (hc : P.cellsOf T = d.sz) (h : OpensF P fs.toList 0 d g) : Opens P T d g := by
  constructor
  intro H enc w base spare held fuel cs x hx
  obtain ⟨xs, n, _, rfl, hl, hlen, hf⟩ := DataW.trod_struct ht hx
  obtain ⟨y, hy, gy⟩ := h.out H enc w base spare held n cs (by omega) (fun f hf' => by
    obtain ⟨i, hi⟩ := List.getElem?_of_mem hf'
    have h2 := hf i f (by simpa using hi)
    have hlt : i < xs.length := by
      have := (List.getElem?_eq_some_iff.1 hi).1
      simp at this
      omega
    rw [List.getElem?_eq_getElem hlt] at h2
    exact ⟨_, h2⟩)
  exact ⟨y, by simpa using hy, gy⟩

theorem opens_iso {α β : Type} {T : TypeId} {d : Kd α} {g : α → Prop} {f : β → α} (inv : α → β) (hi : ∀ y, f (inv y) = y) (h : Opens P T d g) : Opens P T (Kd.iso d f) (fun x => g (f x)) := by
  constructor
  intro H enc w base spare held fuel cs x hx
  obtain ⟨y, hy, gy⟩ := h.out H enc w base spare held fuel cs x hx
  exact ⟨inv y, (show d.K w (f (inv y)) cs by rw [hi]; exact hy), (show g (f (inv y)) by rw [hi]; exact gy)⟩

/-- A slice that came in. -/
theorem slice_in {α : Type} {H : Type} {enc : TypeId × Value → H} {w : World} {base : Nat} {spare : Nat → Bool} {held : Bool} {T e : TypeId} {d : Kd α} {g : List α → Prop} {a : Option Addr} {len cap : Nat} {x : DataW H} {ps : List MemPlace}
    (h : Opens P T (Kd.slice e d) g) (hx : DataW.Trod enc P w base spare held T (.slice a len cap) x ps) : ∃ l : List α, len = l.length ∧ l.length ≤ cap ∧ d.C w a l.length l ∧ g l := by
  obtain ⟨fuel, hf⟩ := hx
  obtain ⟨l, ⟨A, c, he, hl, hC⟩, gl⟩ := h.out H enc w base spare held fuel _ _ hf
  simp [Value.cells] at he
  obtain ⟨rfl, rfl, rfl⟩ := he
  exact ⟨l, rfl, hl, hC, gl⟩
/-- A struct that came in by value. -/
theorem struct_in {α : Type} {H : Type} {enc : TypeId × Value → H} {w : World} {base : Nat} {spare : Nat → Bool} {held : Bool} {T : TypeId} {d : Kd α} {g : α → Prop} {cs : Array Value} {x : DataW H} {ps : List MemPlace}
    (h : Opens P T d g) (hx : DataW.Trod enc P w base spare held T (.agg cs) x ps) : ∃ y, d.K w y cs.toList ∧ g y := by
  obtain ⟨fuel, hf⟩ := hx
  exact h.out H enc w base spare held fuel _ _ hf
end Go.Proofs.YtgjicigagfhgmaaO
