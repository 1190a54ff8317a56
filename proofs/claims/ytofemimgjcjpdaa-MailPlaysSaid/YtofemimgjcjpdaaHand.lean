/- mail.Queue: what is told of its state; what its methods do. -/
import Derived.Test.YtofemimgjcjpdaaProg
import Derived.Conc.LoneSelectN
import Derived.Conc.LoneSelect
import Derived.KernelRfl
import Derived.Laws.Rows
import Derived.Laws.Tables
import Derived.WalkKit
import Derived.Lib.Hide
import Derived.Deep.QuietTactic
import Derived.BigQuiet
namespace Go.Proofs.Ytofemimgjcjpdaa.H
open Go.Conc Go.RowKit
set_option linter.unusedVariables false
set_option linter.unusedSimpArgs false

/-! ### which blocks turn -/
structure Turn (S : Nat → Prop) (w w' : World) : Prop where
  os : w'.os = w.os
  tape : w'.tape = w.tape
  output : w'.output = w.output
  size : w.heap.size ≤ w'.heap.size
  block : ∀ i, i < w.heap.size → ¬ S i → w'.heap[i]? = w.heap[i]?
theorem Turn.refl (S : Nat → Prop) (w : World) : Turn S w w := ⟨rfl, rfl, rfl, Nat.le_refl _, fun _ _ _ => rfl⟩
theorem Turn.trans {S : Nat → Prop} {a b c : World} (h : Turn S a b) (k : Turn S b c) : Turn S a c :=
  ⟨k.os.trans h.os, k.tape.trans h.tape, k.output.trans h.output, Nat.le_trans h.size k.size, fun i hi hs => (k.block i (Nat.lt_of_lt_of_le hi h.size) hs).trans (h.block i hi hs)⟩
theorem Turn.mono {S S' : Nat → Prop} {a b : World} (h : Turn S a b) (hs : ∀ i, i < a.heap.size → S i → S' i) : Turn S' a b := ⟨h.os, h.tape, h.output, h.size, fun i hi hn => h.block i hi (fun s => hn (hs i hi s))⟩
theorem Turn.of_below {S : Nat → Prop} {a b : World} (h : Below a.heap.size a b) : Turn S a b := ⟨h.os, h.tape, h.output, h.size, fun i hi _ => h.block i hi⟩
theorem Turn.below {S : Nat → Prop} {B : Nat} {a b : World} (h : Turn S a b) (hB : B ≤ a.heap.size) (hs : ∀ i, S i → B ≤ i) : Below B a b := ⟨h.os, h.tape, h.output, h.size, fun i hi => h.block i (by omega) (fun s => by have := hs i s; omega)⟩
theorem Turn.blk {S : Nat → Prop} {a b : World} {g : Nat} {o : Obj} (h : Turn S a b) (hb : a.heap[g]? = some o) (hs : ¬ S g) : b.heap[g]? = some o := (h.block g (Array.getElem?_eq_some_iff.1 hb).1 hs).trans hb
theorem turn_setChan (w : World) (c cap : Nat) (buf : Array Value) (cl : Bool) (s r : Nat) (tm : Bool) (S : Nat → Prop) (h : S c) : Turn S w (w.setChan c cap buf cl s r tm) :=
  ⟨rfl, rfl, rfl, by simp [World.setChan], fun i _ hn => by simp only [World.setChan]; rw [Array.getElem?_setIfInBounds_ne (fun e => hn (by rw [← e]; exact h))]⟩
theorem turn_setCell (w : World) (a : Addr) (u : Value) (S : Nat → Prop) (h : S a.block) : Turn S w (w.setCell a u) :=
  ⟨rfl, rfl, rfl, by simp [World.setCell], fun i _ hn => Below.heap_setCell _ _ _ _ (fun e => hn (by rw [e]; exact h))⟩

/-! ### a queue: its block, its channel's block, the room, what waits, was it shut -/
def nums (xs : List Int) : Array Value := ⟨xs.map (Value.int .i64)⟩
def IsQ (w : World) (g c cap : Nat) (xs : List Int) (shut : Bool) : Prop :=
  w.heap[g]? = some (.cells #[.chan (some c), .bool shut] 56 (0, 0)) ∧ ∃ s r, w.heap[c]? = some (.chan cap (nums xs) shut s r false)
section
variable {w w' : World} {g c cap : Nat} {xs : List Int} {shut : Bool}
theorem IsQ.ne (h : IsQ w g c cap xs shut) : g ≠ c := by
  obtain ⟨h1, s, r, h2⟩ := h
  rintro rfl
  rw [h1] at h2
  cases h2
theorem IsQ.ne2 {g2 c2 cap2 : Nat} {ys : List Int} {s2 : Bool} (h : IsQ w g c cap xs shut) (k : IsQ w g2 c2 cap2 ys s2) : g ≠ c2 := by
  obtain ⟨h1, s, r, h2⟩ := h
  obtain ⟨k1, s', r', k2⟩ := k
  rintro rfl
  rw [h1] at k2
  cases k2
theorem IsQ.lt (h : IsQ w g c cap xs shut) : g < w.heap.size ∧ c < w.heap.size := by
  obtain ⟨h1, s, r, h2⟩ := h
  exact ⟨(Array.getElem?_eq_some_iff.1 h1).1, (Array.getElem?_eq_some_iff.1 h2).1⟩
theorem IsQ.turn {S : Nat → Prop} (h : IsQ w g c cap xs shut) (ht : Turn S w w') (hg : ¬ S g) (hc : ¬ S c) : IsQ w' g c cap xs shut := by
  obtain ⟨h1, s, r, h2⟩ := h
  exact ⟨ht.blk h1 hg, s, r, ht.blk h2 hc⟩
theorem cell_of {w : World} {g : Nat} {t : TypeId} {cs : Array Value} (h : w.heap[g]? = some (.cells cs t (0, 0))) (i : Nat) : w.cell? ⟨g, i, none⟩ = cs[i]? := cell_of_row w g i cs t (0, 0) h
theorem froz_of {w : World} {g : Nat} {t : TypeId} {cs : Array Value} (h : w.heap[g]? = some (.cells cs t (0, 0))) (i : Nat) : w.frozen? ⟨g, i, none⟩ = false := by simp [World.frozen?, h]
end

def putE (cap : Nat) (xs : List Int) (shut : Bool) : Int := if shut then 60 else if xs.length < cap then 0 else 6
def putQ (cap : Nat) (xs : List Int) (shut : Bool) (x : Int) : List Int := if shut then xs else if xs.length < cap then xs ++ [x] else xs

set_option maxRecDepth 100000 in
theorem put_shut (w : World) (g c cap : Nat) (xs : List Int) (x : Int) (h : IsQ w g c cap xs true) :
    Calls Try.prog 17 #[.pointer (some ⟨g, 0, none⟩), .int .i64 x] w fun e w' => e = .returned (.int .i64 60) ∧ w' = w := by
  obtain ⟨h1, s, r, h2⟩ := h
  have hc0 : w.cell? ⟨g, 0, none⟩ = some (.chan (some c)) := (cell_of h1 0).trans rfl
  have hc1 : w.cell? ⟨g, 1, none⟩ = some (.bool true) := (cell_of h1 1).trans rfl
  have hf1 := froz_of h1 1
  clear h1 h2
  go_enter Try.func17, Try.ntmps17
  go_wp2
  go_ret
  exact ⟨rfl, rfl⟩

set_option maxRecDepth 100000 in
theorem put_room (w : World) (g c cap : Nat) (xs : List Int) (x : Int) (h : IsQ w g c cap xs false) (hl : xs.length < cap) :
    Calls Try.prog 17 #[.pointer (some ⟨g, 0, none⟩), .int .i64 x] w fun e w' => e = .returned (.int .i64 0) ∧ IsQ w' g c cap (xs ++ [x]) false ∧ Turn (· = c) w w' := by
  have hne := h.ne
  have hlt := h.lt
  obtain ⟨h1, s, r, h2⟩ := h
  have hc0 : w.cell? ⟨g, 0, none⟩ = some (.chan (some c)) := (cell_of h1 0).trans rfl
  have hc1 : w.cell? ⟨g, 1, none⟩ = some (.bool false) := (cell_of h1 1).trans rfl
  have hf0 := froz_of h1 0
  have hf1 := froz_of h1 1
  refine calls_of_loneTo fun cs => ?_
  have e : Frame.enter Try.prog 17 #[.pointer (some ⟨g, 0, none⟩), .int .i64 x] .normal = (base 17).at ⟨#[.pointer (some ⟨g, 0, none⟩), .int .i64 x, undef, undef, undef, undef, undef, undef, undef, undef, undef, undef, undef, undef, undef, undef, undef], []⟩ [.code (Try.f17.body.getD .skip)] := by
    simp [Frame.enter, Frame.at, Try.func17, base, Try.f17]
  rw [e]
  refine LoneTo.goes (n := 60) ?_
  simp only [Try.f17, Option.getD_some]
  s_c stepG_seq
  s_reg
  s_op
  s_c stepG_region_end
  s_c stepG_seq
  s_c stepG_seq
  s_reg
  s_op
  s_op
  s_op
  s_op
  s_c stepG_region_end
  s_cond false
  s_c stepG_skip
  s_c stepG_seq
  s_c stepG_seq
  s_reg
  s_op
  s_op
  s_op
  s_op
  s_c stepG_region_end
  s_reg
  s_op
  s_c stepG_region_end
  s_c stepG_seq
  s_reg
  s_stop
  refine LoneTo.step (step_lone_select_send_room (c := c) (v := .int .i64 x) (z' := .int .i64 0) (cap := cap) (buf := nums xs) (s := s) (r := r) (tm := false) (stepG_comm (cases := #[scase c (.int .i64 x) (.int .i64 0)]) (blocking := false) (shape := .select) (w' := w) rfl rfl (by decide) (by simp [go_sem, execOp, scase, Act.eval])) h2 (by simpa [nums] using hl)) ?_
  rw [Frame.finish_at]
  walk_nrm
  refine LoneTo.goes (n := 40) ?_
  s_op
  s_op
  s_c stepG_region_end
  s_c stepG_block
  s_cond true
  s_c stepG_seq
  s_reg
  s_op
  s_c stepG_region_end
  s_c stepG_ret'
  s_stop
  refine LoneTo.done ⟨.returned (.int .i64 0), _, rfl, ⟨rfl, ⟨?_, s + 1, r, ?_⟩, ?_⟩, rfl, rfl, rfl, rfl, _, Try.func17, by simp [results, Try.f17, Frame.at]⟩
  · exact (turn_setChan w c cap _ _ _ _ _ (· = c) rfl).blk h1 hne
  · rw [heap_setChan _ _ _ _ _ _ _ _ hlt.2]; simp [nums]
  · exact turn_setChan w c cap _ _ _ _ _ (· = c) rfl

set_option maxRecDepth 100000 in
theorem put_full (w : World) (g c cap : Nat) (xs : List Int) (x : Int) (h : IsQ w g c cap xs false) (hl : cap ≤ xs.length) :
    Calls Try.prog 17 #[.pointer (some ⟨g, 0, none⟩), .int .i64 x] w fun e w' => e = .returned (.int .i64 6) ∧ w' = w := by
  have hne := h.ne
  have hlt := h.lt
  obtain ⟨h1, s, r, h2⟩ := h
  have hc0 : w.cell? ⟨g, 0, none⟩ = some (.chan (some c)) := (cell_of h1 0).trans rfl
  have hc1 : w.cell? ⟨g, 1, none⟩ = some (.bool false) := (cell_of h1 1).trans rfl
  have hf0 := froz_of h1 0
  have hf1 := froz_of h1 1
  refine calls_of_loneTo fun cs => ?_
  have e : Frame.enter Try.prog 17 #[.pointer (some ⟨g, 0, none⟩), .int .i64 x] .normal = (base 17).at ⟨#[.pointer (some ⟨g, 0, none⟩), .int .i64 x, undef, undef, undef, undef, undef, undef, undef, undef, undef, undef, undef, undef, undef, undef, undef], []⟩ [.code (Try.f17.body.getD .skip)] := by
    simp [Frame.enter, Frame.at, Try.func17, base, Try.f17]
  rw [e]
  refine LoneTo.goes (n := 60) ?_
  simp only [Try.f17, Option.getD_some]
  s_c stepG_seq
  s_reg
  s_op
  s_c stepG_region_end
  s_c stepG_seq
  s_c stepG_seq
  s_reg
  s_op
  s_op
  s_op
  s_op
  s_c stepG_region_end
  s_cond false
  s_c stepG_skip
  s_c stepG_seq
  s_c stepG_seq
  s_reg
  s_op
  s_op
  s_op
  s_op
  s_c stepG_region_end
  s_reg
  s_op
  s_c stepG_region_end
  s_c stepG_seq
  s_reg
  s_stop
  refine LoneTo.step (step_lone_select_send_full (c := c) (v := .int .i64 x) (z' := .int .i64 0) (cap := cap) (buf := nums xs) (s := s) (r := r) (tm := false) (stepG_comm (cases := #[scase c (.int .i64 x) (.int .i64 0)]) (blocking := false) (shape := .select) (w' := w) rfl rfl (by decide) (by simp [go_sem, execOp, scase, Act.eval])) h2 (by simpa [nums] using hl)) ?_
  rw [Frame.finish_at]
  walk_nrm
  refine LoneTo.goes (n := 40) ?_
  s_op
  s_op
  s_c stepG_region_end
  s_c stepG_block
  s_cond false
  s_c stepG_seq
  s_reg
  s_op
  s_c stepG_region_end
  s_c stepG_ret'
  s_stop
  exact LoneTo.done ⟨.returned (.int .i64 6), _, rfl, ⟨rfl, rfl⟩, rfl, rfl, rfl, rfl, _, Try.func17, by simp [results, Try.f17, Frame.at]⟩

theorem put_any (w : World) (g c cap : Nat) (xs : List Int) (shut : Bool) (x : Int) (h : IsQ w g c cap xs shut) :
    Calls Try.prog 17 #[.pointer (some ⟨g, 0, none⟩), .int .i64 x] w fun e w' => e = .returned (.int .i64 (putE cap xs shut)) ∧ IsQ w' g c cap (putQ cap xs shut x) shut ∧ Turn (· = c) w w' := by
  cases shut with
  | true => exact (put_shut w g c cap xs x h).mono fun e w' ⟨h1, h2⟩ => by subst h1 h2; exact ⟨rfl, h, Turn.refl _ _⟩
  | false =>
    by_cases hl : xs.length < cap
    · refine (put_room w g c cap xs x h hl).mono fun e w' ⟨h1, h2, h3⟩ => ?_
      subst h1
      refine ⟨by simp [putE, hl], ?_, h3⟩
      simpa [putQ, hl] using h2
    · refine (put_full w g c cap xs x h (by omega)).mono fun e w' ⟨h1, h2⟩ => ?_
      subst h1 h2
      refine ⟨by simp [putE, hl], ?_, Turn.refl _ _⟩
      simpa [putQ, hl] using h

set_option maxRecDepth 100000 in
theorem get_some (w : World) (g c cap : Nat) (x : Int) (xs : List Int) (shut : Bool) (h : IsQ w g c cap (x :: xs) shut) :
    Calls Try.prog 19 #[.pointer (some ⟨g, 0, none⟩)] w fun e w' => e = .returned (.tuple #[.int .i64 x, .bool true]) ∧ IsQ w' g c cap xs shut ∧ Turn (· = c) w w' := by
  have hne := h.ne
  have hlt := h.lt
  obtain ⟨h1, s, r, h2⟩ := h
  have hc0 : w.cell? ⟨g, 0, none⟩ = some (.chan (some c)) := (cell_of h1 0).trans rfl
  have hc1 : w.cell? ⟨g, 1, none⟩ = some (.bool shut) := (cell_of h1 1).trans rfl
  have hf0 := froz_of h1 0
  have hf1 := froz_of h1 1
  refine calls_of_loneTo fun cs => ?_
  have e : Frame.enter Try.prog 19 #[.pointer (some ⟨g, 0, none⟩)] .normal = (base 19).at ⟨#[.pointer (some ⟨g, 0, none⟩), undef, undef, undef, undef, undef, undef, undef, undef, undef, undef, undef, undef, undef, undef, undef, undef, undef, undef], []⟩ [.code (Try.f19.body.getD .skip)] := by
    simp [Frame.enter, Frame.at, Try.func19, base, Try.f19]
  rw [e]
  refine LoneTo.goes (n := 60) ?_
  simp only [Try.f19, Option.getD_some]
  s_c stepG_seq
  s_reg
  s_op
  s_op
  s_c stepG_region_end
  s_c stepG_seq
  s_reg
  s_op
  s_op
  s_op
  s_op
  s_c stepG_region_end
  s_c stepG_seq
  s_reg
  s_stop
  refine LoneTo.step (step_lone_select_recv_buf (c := c) (z := .int .i64 0) (cap := cap) (buf := nums (x :: xs)) (s := s) (r := r) (tm := false) (stepG_comm (cases := #[rcase c (.int .i64 0)]) (blocking := false) (shape := .select) (w' := w) rfl rfl (by decide) (by simp [go_sem, execOp, rcase, Act.eval])) h2 (by simp [nums])) ?_
  rw [Frame.finish_at]
  walk_nrm
  refine LoneTo.goes (n := 40) ?_
  s_op
  s_op
  s_c stepG_region_end
  s_c stepG_block
  s_cond true
  s_c stepG_seq
  s_reg
  s_op
  s_op
  s_op
  s_op
  s_c stepG_region_end
  s_c stepG_seq
  s_reg
  s_op
  s_op
  s_op
  s_op
  s_c stepG_region_end
  s_c stepG_ret'
  s_stop
  refine LoneTo.done ⟨.returned (.tuple #[.int .i64 x, .bool true]), _, rfl, ⟨rfl, ⟨?_, s, r + 1, ?_⟩, ?_⟩, rfl, rfl, rfl, rfl, _, Try.func19, by simp [results, Try.f19, Frame.at, nums]⟩
  · exact (turn_setChan w c cap _ _ _ _ _ (· = c) rfl).blk h1 hne
  · rw [heap_setChan _ _ _ _ _ _ _ _ hlt.2]; simp [nums, List.take_of_length_le]
  · exact turn_setChan w c cap _ _ _ _ _ (· = c) rfl

set_option maxRecDepth 100000 in
theorem get_shut (w : World) (g c cap : Nat) (h : IsQ w g c cap [] true) :
    Calls Try.prog 19 #[.pointer (some ⟨g, 0, none⟩)] w fun e w' => e = .returned (.tuple #[.int .i64 0, .bool false]) ∧ w' = w := by
  have hne := h.ne
  have hlt := h.lt
  obtain ⟨h1, s, r, h2⟩ := h
  have hc0 : w.cell? ⟨g, 0, none⟩ = some (.chan (some c)) := (cell_of h1 0).trans rfl
  have hc1 : w.cell? ⟨g, 1, none⟩ = some (.bool true) := (cell_of h1 1).trans rfl
  have hf0 := froz_of h1 0
  have hf1 := froz_of h1 1
  refine calls_of_loneTo fun cs => ?_
  have e : Frame.enter Try.prog 19 #[.pointer (some ⟨g, 0, none⟩)] .normal = (base 19).at ⟨#[.pointer (some ⟨g, 0, none⟩), undef, undef, undef, undef, undef, undef, undef, undef, undef, undef, undef, undef, undef, undef, undef, undef, undef, undef], []⟩ [.code (Try.f19.body.getD .skip)] := by
    simp [Frame.enter, Frame.at, Try.func19, base, Try.f19]
  rw [e]
  refine LoneTo.goes (n := 60) ?_
  simp only [Try.f19, Option.getD_some]
  s_c stepG_seq
  s_reg
  s_op
  s_op
  s_c stepG_region_end
  s_c stepG_seq
  s_reg
  s_op
  s_op
  s_op
  s_op
  s_c stepG_region_end
  s_c stepG_seq
  s_reg
  s_stop
  refine LoneTo.step (step_lone_select_recv_shut (c := c) (z := .int .i64 0) (cap := cap) (s := s) (r := r) (tm := false) (stepG_comm (cases := #[rcase c (.int .i64 0)]) (blocking := false) (shape := .select) (w' := w) rfl rfl (by decide) (by simp [go_sem, execOp, rcase, Act.eval])) h2) ?_
  rw [Frame.finish_at]
  walk_nrm
  refine LoneTo.goes (n := 40) ?_
  s_op
  s_op
  s_c stepG_region_end
  s_c stepG_block
  s_cond true
  s_c stepG_seq
  s_reg
  s_op
  s_op
  s_op
  s_op
  s_c stepG_region_end
  s_c stepG_seq
  s_reg
  s_op
  s_op
  s_op
  s_op
  s_c stepG_region_end
  s_c stepG_ret'
  s_stop
  exact LoneTo.done ⟨.returned (.tuple #[.int .i64 0, .bool false]), _, rfl, ⟨rfl, rfl⟩, rfl, rfl, rfl, rfl, _, Try.func19, by simp [results, Try.f19, Frame.at, nums]⟩

set_option maxRecDepth 100000 in
theorem get_none (w : World) (g c cap : Nat) (h : IsQ w g c cap [] false) :
    Calls Try.prog 19 #[.pointer (some ⟨g, 0, none⟩)] w fun e w' => e = .returned (.tuple #[.int .i64 0, .bool false]) ∧ w' = w := by
  have hne := h.ne
  have hlt := h.lt
  obtain ⟨h1, s, r, h2⟩ := h
  have hc0 : w.cell? ⟨g, 0, none⟩ = some (.chan (some c)) := (cell_of h1 0).trans rfl
  have hc1 : w.cell? ⟨g, 1, none⟩ = some (.bool false) := (cell_of h1 1).trans rfl
  have hf0 := froz_of h1 0
  have hf1 := froz_of h1 1
  refine calls_of_loneTo fun cs => ?_
  have e : Frame.enter Try.prog 19 #[.pointer (some ⟨g, 0, none⟩)] .normal = (base 19).at ⟨#[.pointer (some ⟨g, 0, none⟩), undef, undef, undef, undef, undef, undef, undef, undef, undef, undef, undef, undef, undef, undef, undef, undef, undef, undef], []⟩ [.code (Try.f19.body.getD .skip)] := by
    simp [Frame.enter, Frame.at, Try.func19, base, Try.f19]
  rw [e]
  refine LoneTo.goes (n := 60) ?_
  simp only [Try.f19, Option.getD_some]
  s_c stepG_seq
  s_reg
  s_op
  s_op
  s_c stepG_region_end
  s_c stepG_seq
  s_reg
  s_op
  s_op
  s_op
  s_op
  s_c stepG_region_end
  s_c stepG_seq
  s_reg
  s_stop
  refine LoneTo.step (step_lone_select_default (c := c) (z := .int .i64 0) (cap := cap) (s := s) (r := r) (tm := false) (stepG_comm (cases := #[rcase c (.int .i64 0)]) (blocking := false) (shape := .select) (w' := w) rfl rfl (by decide) (by simp [go_sem, execOp, rcase, Act.eval])) h2) ?_
  rw [Frame.finish_at]
  walk_nrm
  refine LoneTo.goes (n := 40) ?_
  s_op
  s_op
  s_c stepG_region_end
  s_c stepG_block
  s_cond false
  s_c stepG_seq
  s_reg
  s_op
  s_c stepG_region_end
  s_c stepG_seq
  s_reg
  s_op
  s_op
  s_op
  s_c stepG_region_end
  s_c stepG_ret'
  s_stop
  exact LoneTo.done ⟨.returned (.tuple #[.int .i64 0, .bool false]), _, rfl, ⟨rfl, rfl⟩, rfl, rfl, rfl, rfl, _, Try.func19, by simp [results, Try.f19, Frame.at, nums]⟩

theorem get_any (w : World) (g c cap : Nat) (xs : List Int) (shut : Bool) (h : IsQ w g c cap xs shut) :
    Calls Try.prog 19 #[.pointer (some ⟨g, 0, none⟩)] w fun e w' => e = .returned (.tuple #[.int .i64 (xs.headD 0), .bool (!xs.isEmpty)]) ∧ IsQ w' g c cap xs.tail shut ∧ Turn (· = c) w w' := by
  cases xs with
  | cons x xs => exact get_some w g c cap x xs shut h
  | nil =>
    cases shut with
    | true => exact (get_shut w g c cap h).mono fun e w' ⟨h1, h2⟩ => by subst h1 h2; exact ⟨rfl, h, Turn.refl _ _⟩
    | false => exact (get_none w g c cap h).mono fun e w' ⟨h1, h2⟩ => by subst h1 h2; exact ⟨rfl, h, Turn.refl _ _⟩

/-! ### what is asked of it -/
theorem info3 : ∃ i, Try.prog.info? 3 = some i ∧ i.bytes = 8 := by
  have h : (Try.prog.info? 3).map (·.bytes) = some 8 := by kernel_rfl
  obtain ⟨i, hi, hb⟩ := Option.map_eq_some_iff.1 h
  exact ⟨i, hi, hb⟩
set_option maxRecDepth 100000 in
theorem len_any (w : World) (g c cap : Nat) (xs : List Int) (shut : Bool) (h : IsQ w g c cap xs shut) :
    Calls Try.prog 11 #[.pointer (some ⟨g, 0, none⟩)] w fun e w' => e = .returned (.int .i64 xs.length) ∧ w' = w := by
  have hne := h.ne
  have hlt := h.lt
  obtain ⟨h1, s, r, h2⟩ := h
  have hc0 : w.cell? ⟨g, 0, none⟩ = some (.chan (some c)) := (cell_of h1 0).trans rfl
  have hc1 : w.cell? ⟨g, 1, none⟩ = some (.bool shut) := (cell_of h1 1).trans rfl
  have hf0 := froz_of h1 0
  have hf1 := froz_of h1 1
  have hlen := fun ty => run_len_chan (P := Try.prog) 54 ty Try.underlying54 h2
  rw [show (nums xs).size = xs.length by simp [nums]] at hlen
  clear h1 h2
  go_enter Try.func11, Try.ntmps11
  go_wp2
  go_ret
  exact ⟨rfl, rfl⟩

def roomN (cap : Nat) (xs : List Int) (shut : Bool) : Int := if shut then 0 else cap - xs.length
set_option maxRecDepth 100000 in
theorem room_any (w : World) (g c cap : Nat) (xs : List Int) (shut : Bool) (h : IsQ w g c cap xs shut) (hcap : cap ≤ 100000) (hl : xs.length ≤ 100000) :
    Calls Try.prog 12 #[.pointer (some ⟨g, 0, none⟩)] w fun e w' => e = .returned (.int .i64 (roomN cap xs shut)) ∧ ∃ n, w' = w.drewN n := by
  have hne := h.ne
  have hlt := h.lt
  obtain ⟨h1, s, r, h2⟩ := h
  have hc0 : w.cell? ⟨g, 0, none⟩ = some (.chan (some c)) := (cell_of h1 0).trans rfl
  have hc1 : w.cell? ⟨g, 1, none⟩ = some (.bool shut) := (cell_of h1 1).trans rfl
  have hf0 := froz_of h1 0
  have hf1 := froz_of h1 1
  have hlen := fun ty => run_len_chan (P := Try.prog) (w := w.drew) 54 ty Try.underlying54 h2
  have hcp := fun ty => run_cap_chan (P := Try.prog) (w := w.drew) 54 ty Try.underlying54 h2
  rw [show (nums xs).size = xs.length by simp [nums]] at hlen
  clear h1 h2
  have hH : True := trivial
  cases shut with
  | true =>
    go_enter Try.func12, Try.ntmps12
    go_wp2
    go_ret
    exact ⟨rfl, 0, rfl⟩
  | false =>
    go_enter Try.func12, Try.ntmps12
    go_wp2
    go_region
    all_goals (go_wp2; go_ret; exact ⟨rfl, 1, rfl⟩)

def overB (xs : List Int) (shut : Bool) : Bool := shut && xs.isEmpty
set_option maxRecDepth 100000 in
theorem over_any (w : World) (g c cap : Nat) (xs : List Int) (shut : Bool) (h : IsQ w g c cap xs shut) :
    Calls Try.prog 14 #[.pointer (some ⟨g, 0, none⟩)] w fun e w' => e = .returned (.bool (overB xs shut)) ∧ w' = w := by
  have hne := h.ne
  have hlt := h.lt
  obtain ⟨h1, s, r, h2⟩ := h
  have hc0 : w.cell? ⟨g, 0, none⟩ = some (.chan (some c)) := (cell_of h1 0).trans rfl
  have hc1 : w.cell? ⟨g, 1, none⟩ = some (.bool shut) := (cell_of h1 1).trans rfl
  have hf0 := froz_of h1 0
  have hf1 := froz_of h1 1
  have hlen := fun ty => run_len_chan (P := Try.prog) 54 ty Try.underlying54 h2
  rw [show (nums xs).size = xs.length by simp [nums]] at hlen
  clear h1 h2
  cases shut with
  | false =>
    go_enter Try.func14, Try.ntmps14
    go_wp2
    go_ret
    exact ⟨rfl, rfl⟩
  | true =>
    have hx : ((xs.length : Int) == 0) = xs.isEmpty := by cases xs <;> simp; omega
    go_enter Try.func14, Try.ntmps14
    go_wp2
    go_ret
    exact ⟨rfl, rfl⟩


/-! ### Shut, New -/
set_option maxRecDepth 100000 in
theorem shut_any (w : World) (g c cap : Nat) (xs : List Int) (shut : Bool) (h : IsQ w g c cap xs shut) :
    Calls Try.prog 18 #[.pointer (some ⟨g, 0, none⟩)] w fun e w' => e = .returned (.tuple #[]) ∧ IsQ w' g c cap xs true ∧ Turn (fun i => i = c ∨ i = g) w w' := by
  have hne := h.ne
  have hlt := h.lt
  have h0 := h
  obtain ⟨h1, s, r, h2⟩ := h
  have hc0 : w.cell? ⟨g, 0, none⟩ = some (.chan (some c)) := (cell_of h1 0).trans rfl
  have hc1 : w.cell? ⟨g, 1, none⟩ = some (.bool shut) := (cell_of h1 1).trans rfl
  have hf0 := froz_of h1 0
  have hf1 := froz_of h1 1
  cases shut with
  | true =>
    clear h1 h2
    go_enter Try.func18, Try.ntmps18
    go_wp2
    go_end0
    exact ⟨rfl, h0, Turn.refl _ _⟩
  | false =>
    have hk : (w.setCell ⟨g, 1, none⟩ (.bool true)).heap[c]? = some (.chan cap (nums xs) false s r false) := (Below.heap_setCell _ _ _ _ (fun e => hne e.symm)).trans h2
    have hcl := fun ats ty => run_close_open (P := Try.prog) (w := w.setCell ⟨g, 1, none⟩ (.bool true)) ats ty hk
    have HK := Lib.hid hk
    have H1 := Lib.hid h1
    have H0 := Lib.hid h0
    clear h1 h2 hk h0
    go_enter Try.func18, Try.ntmps18
    go_wp2
    go_end0
    refine ⟨rfl, ⟨?_, s, r, ?_⟩, ?_⟩
    · show ((w.setCell ⟨g, 1, none⟩ (.bool true)).setChan c cap (nums xs) true s r false).heap[g]? = _
      refine (turn_setChan _ c cap _ _ _ _ _ (· = c) rfl).blk ?_ hne
      simp [World.setCell, Array.getElem?_modify, H1.out]
    · exact heap_setChan (w.setCell ⟨g, 1, none⟩ (.bool true)) _ _ _ _ _ _ _ (by simpa [World.setCell] using hlt.2)
    · exact (turn_setCell w ⟨g, 1, none⟩ (.bool true) _ (.inr rfl)).trans (turn_setChan _ c cap _ _ _ _ _ _ (.inl rfl))

def held (n : Int) : Nat := (if 1024 < (if n < 0 then 0 else n) then 1024 else (if n < 0 then 0 else n)).toNat
theorem held_le (n : Int) : held n ≤ 1024 := by unfold held; split <;> split <;> omega
/-- What New hands back. -/
def NewP (w : World) (n : Int) (e : Ending) (w' : World) : Prop := ∃ g c, e = .returned (.pointer (some ⟨g, 0, none⟩)) ∧ IsQ w' g c (held n) [] false ∧ w.heap.size ≤ g ∧ w.heap.size ≤ c ∧ Below w.heap.size w w'
set_option maxRecDepth 100000 in
theorem new_any (w : World) (n : Int) : Calls Try.prog 8 #[.int .i64 n] w (NewP w n) := by
  obtain ⟨i, hi, hb⟩ := info3
  obtain ⟨m, hm⟩ : ∃ m, m = held n := ⟨_, rfl⟩
  have hmk := run_makeChan (P := Try.prog) (w := w) Try.underlying54 hi .i64 m (by have := held_le n; omega) (by have := held_le n; rw [hb]; omega)
  have hv : (if 1024 < (if n < 0 then 0 else n) then (1024 : Int) else (if n < 0 then 0 else n)) = m := by rw [hm]; unfold held; split <;> split <;> omega
  have HM := Lib.hid hm
  clear hm
  go_enter Try.func8, Try.ntmps8
  go_wp2
  all_goals
    go_ret
    have e1 : ((w.alloc (Obj.chan m #[] false 0 0 false)).alloc (.cells #[.chan (some w.heap.size), .bool false] 56)).heap[w.heap.size + 1]? = some (.cells #[.chan (some w.heap.size), .bool false] 56 (0, 0)) := by
      have := heap_alloc_new (w.alloc (Obj.chan m #[] false 0 0 false)) (.cells #[.chan (some w.heap.size), .bool false] 56)
      simpa only [World.size_alloc] using this
    have e2 : ((w.alloc (Obj.chan m #[] false 0 0 false)).alloc (.cells #[.chan (some w.heap.size), .bool false] 56)).heap[w.heap.size]? = some (.chan m #[] false 0 0 false) := by
      rw [Below.heap_alloc _ _ _ (by simp)]
      exact heap_alloc_new w _
    refine ⟨w.heap.size + 1, w.heap.size, rfl, ⟨e1, 0, 0, ?_⟩, by omega, Nat.le_refl _, ((Below.refl _ w).alloc (Nat.le_refl _) _).alloc (by simp) _⟩
    rw [← HM.out]
    exact e2

end Go.Proofs.Ytofemimgjcjpdaa.H
