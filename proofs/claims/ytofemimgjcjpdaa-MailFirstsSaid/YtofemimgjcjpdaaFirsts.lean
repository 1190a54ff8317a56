/- MailFirsts: the walk over the law's text. -/
import Derived.Test.YtofemimgjcjpdaaRow
namespace Go.Proofs.Ytofemimgjcjpdaa.H
open Go.Conc Go.RowKit Go.Shelf
open Go.Proofs.YtofemimgjcjpdaaW.PrintWords (ReadsInt readsInt_of own_base own_typed pw_cell_below)
set_option linter.unusedVariables false
set_option linter.unusedSimpArgs false

abbrev RowsIn (w : World) (A : Option Addr) (rows : List (List Int)) : Prop := Go.Proofs.YtofemimgjcjpdaaW.PrintWords.Kd.C (Go.Proofs.YtofemimgjcjpdaaW.PrintWords.Kd.slice 3 (Go.Proofs.YtofemimgjcjpdaaW.PrintWords.Kd.int .i64)) w A rows.length rows
theorem rows_at {w : World} {A : Option Addr} {rows : List (List Int)} (h : RowsIn w A rows) (k : Nat) (hk : k < rows.length) :
    ∃ ad Ak ck, A = some ad ∧ w.cell? (ad.add k) = some (.slice Ak (rows[k]).length ck) ∧ ReadsInt w .i64 Ak (rows[k]).length rows[k] := by
  obtain ⟨ad, e, hc⟩ := h.2.2 (by omega)
  obtain ⟨c, hl, ⟨Ak, ck, rfl, _, hr⟩, hcell⟩ := hc k _ (List.getElem?_eq_getElem hk)
  refine ⟨ad, Ak, ck, e, ?_, readsInt_of.2 (Go.Proofs.YtofemimgjcjpdaaW.PrintWords.Kd.reads_of_C hr)⟩
  have := hcell 0 _ rfl
  rw [show k * (Go.Proofs.YtofemimgjcjpdaaW.PrintWords.Kd.slice 3 (Go.Proofs.YtofemimgjcjpdaaW.PrintWords.Kd.int .i64)).sz + 0 = k from by show k * 1 + 0 = k; omega] at this
  exact this

theorem MQ.last {w W W' : World} {b cap n : Nat} {qs : List QD} {q : QD} (h : MQ w b cap n (qs ++ [q]) W) {xs : List Int} {s : Bool} {S : Nat → Prop} (hq : IsQ W' q.g q.c q.cap xs s) (ht : Turn S W W') (hS : ∀ j, S j → j = q.c ∨ j = q.g) : MQ w b cap n (qs ++ [q.to xs s]) W' := by
  have hi : qs.length < (qs ++ [q]).length := by simp
  have e : (qs ++ [q])[qs.length] = q := by simp
  have := h.turn hi (xs := xs) (s := s) (S := S) (by rw [e]; exact hq) ht (by rw [e]; exact hS)
  rw [e] at this
  simpa [List.set_append_right] using this
theorem info24 : (Try.prog.info? 24).map (fun i => (i.zero, i.size, i.bytes)) = some (some (.pointer none), 1, 8) := by kernel_rfl
theorem MQ.app {w W w1 : World} {b cap k : Nat} {qs : List QD} {q : QD} {g' cap' : Nat} (h : MQ w b cap k (qs ++ [q]) W) (hk : qs.length = k) (hown : w1.ownsRow w.heap.size 24 1 (.slice (some ⟨g', 0, none⟩) (k + 1) cap') (k + 1) (ptrs ((qs ++ [q]).take k) ++ [.pointer (some ⟨q.g, 0, none⟩)]))
    (hg : (W.alloc (Obj.cells #[.pointer (some ⟨q.g, 0, none⟩)] 24)).grownBy w1 (some b)) : MQ w g' cap' (k + 1) (qs ++ [q]) w1 := by
  have hb : w.heap.size ≤ b := own_base h.row b rfl
  have h2 := h.later ((Below.refl W.heap.size W).alloc (Nat.le_refl _) (Obj.cells #[.pointer (some ⟨q.g, 0, none⟩)] 24))
  obtain ⟨cells, hty⟩ := own_typed h2.row b rfl
  refine ⟨fun q' hm => ⟨?_, (h2.all q' hm).2⟩, h.gs, h.cs, h2.below.grown hg h2.below.size (fun k e => by cases e; exact hb), ?_⟩
  · have hq' := (h2.all q' hm).1
    have hl := IsQ.lt hq'
    have hne : ∀ i, (i = q'.c ∨ i = q'.g) → some i ≠ some b := fun i hi e => by
      cases e
      exact IsQ.no24 hq' b hi _ _ hty
    obtain ⟨h1, s, r, h3⟩ := hq'
    exact ⟨(hg.block _ hl.1 (hne _ (.inr rfl))).trans h1, s, r, (hg.block _ hl.2 (hne _ (.inl rfl))).trans h3⟩
  · rw [List.take_append_of_le_length (by omega), List.take_of_length_le (by omega)] at hown
    rw [List.take_of_length_le (by simp; omega)]
    simpa [ptrs] using hown

theorem size_one24 {w W : World} (h : Below w.heap.size w W) (o : Obj) : w.heap.size ≤ (W.alloc o).heap.size := by have := h.size; simp; omega
def F1 (w : World) (rows : List (List Int)) (v idx : Value) (wr : World) : Prop :=
  ∃ (k : Nat) (qs : List QD) (b cap : Nat), k ≤ rows.length ∧ idx = .int .i64 k ∧ v = .slice (some ⟨b, 0, none⟩) k cap ∧ MQ w b cap k qs wr ∧ qs.length = k ∧ qs.map QD.xs = rows.take k ∧ (∀ q, q ∈ qs → q.shut = true) ∧ (∀ i (h : i < rows.length), i < k → (rows[i]'h).length ≤ 30)
def F1i (w : World) (b cap k : Nat) (qs : List QD) (g c : Nat) (row : List Int) (idx : Value) (wr : World) : Prop :=
  ∃ j : Nat, j ≤ row.length ∧ idx = .int .i64 j ∧ MQ w b cap k (qs ++ [⟨g, c, row.length, row.take j, false⟩]) wr

/-- What waits in the queues, once the first i are empty and some of the next one was taken. -/
def F2 (w : World) (b cap n i : Nat) (qs : List QD) (rest : List (List Int)) (wr : World) : Prop :=
  MQ w b cap n qs wr ∧ qs.length = n ∧ qs.map QD.xs = List.replicate i [] ++ rest ∧ (∀ q, q ∈ qs → q.shut = true)
theorem F2.xs {w wr : World} {b cap n i : Nat} {qs : List QD} {rest : List (List Int)} (h : F2 w b cap n i qs rest wr) (j : Nat) (hj : j < qs.length) : (List.replicate i [] ++ rest)[j]? = some (qs[j]).xs := by
  rw [← h.2.2.1]
  simp [hj]
theorem F2.before {w wr : World} {b cap n i : Nat} {qs : List QD} {rest : List (List Int)} (h : F2 w b cap n i qs rest wr) (j : Nat) (hj : j < qs.length) (hi : j < i) : (qs[j]).xs = [] := by
  have := h.xs j hj
  rw [List.getElem?_append_left (by simpa using hi), List.getElem?_replicate, if_pos hi] at this
  exact (Option.some.inj this).symm
theorem F2.len {w wr : World} {b cap n i : Nat} {qs : List QD} {r : List Int} {rest : List (List Int)} (h : F2 w b cap n i qs (r :: rest) wr) : i < qs.length := by
  have := congrArg List.length h.2.2.1
  simp at this
  omega
theorem F2.here {w wr : World} {b cap n i : Nat} {qs : List QD} {r : List Int} {rest : List (List Int)} (h : F2 w b cap n i qs (r :: rest) wr) : (qs[i]'h.len).xs = r := by
  have := h.xs i h.len
  rw [List.getElem?_append_right (by simp)] at this
  simp at this
  exact this.symm
theorem F2.first {w wr : World} {b cap n i : Nat} {qs : List QD} {x : Int} {r : List Int} {rest : List (List Int)} (h : F2 w b cap n i qs ((x :: r) :: rest) wr) (hn : n ≤ 1000) :
    Calls Try.prog 21 #[.slice (some ⟨b, 0, none⟩) n cap] wr (FirstP wr x i true (fun w' => ∃ qs', F2 w b cap n i qs' (r :: rest) w')) := by
  have hl := h.2.1
  have hm := h.1
  rw [← hl] at hm
  have k := first_some wr b 0 cap qs (fun q hq => (hm.all q hq).1) hm.holds i h.len (fun j hj hi => h.before j hj hi) x r h.here (by omega)
  rw [hl] at k
  refine k.mono ?_
  rintro e w' ⟨rfl, hq, ht⟩
  refine ⟨rfl, _, h.1.turn h.len hq ht (fun _ h => .inl h), by simpa using hl, ?_, fun q hm => ?_⟩
  · rw [List.map_set, h.2.2.1]
    simp [QD.to, List.set_append_right]
  · rcases List.mem_or_eq_of_mem_set hm with hm | rfl
    · exact h.2.2.2 q hm
    · exact h.2.2.2 (qs[i]'h.len) (List.getElem_mem h.len)
theorem F2.over {w wr : World} {b cap n i : Nat} {qs : List QD} {rest : List (List Int)} (h : F2 w b cap n i qs ([] :: rest) wr) :
    ∃ g, wr.cell? ⟨b, i, none⟩ = some (.pointer (some ⟨g, 0, none⟩)) ∧ Calls Try.prog 14 #[.pointer (some ⟨g, 0, none⟩)] wr (fun e w' => e = .returned (.bool true) ∧ w' = wr) := by
  have hl := h.2.1
  have hm := h.1
  rw [← hl] at hm
  have hc := hm.holds i h.len
  rw [Nat.zero_add] at hc
  have hq := (h.1.all _ (List.getElem_mem h.len)).1
  have hs := h.2.2.2 _ (List.getElem_mem h.len)
  unfold QD.is at hq
  rw [h.here, hs] at hq
  exact ⟨_, hc, over_any _ _ _ _ _ _ hq⟩
def F2o (w : World) (b cap n : Nat) (rows : List (List Int)) (idx : Value) (wr : World) : Prop := ∃ (i : Nat) (qs : List QD), i ≤ rows.length ∧ idx = .int .i64 i ∧ F2 w b cap n i qs (rows.drop i) wr
def F2i (w : World) (b cap n i : Nat) (row : List Int) (rest : List (List Int)) (idx : Value) (wr : World) : Prop := ∃ (j : Nat) (qs : List QD), j ≤ row.length ∧ idx = .int .i64 j ∧ F2 w b cap n i qs (row.drop j :: rest) wr

set_option maxHeartbeats 4000000 in
set_option maxRecDepth 100000 in
theorem firsts_calls (A0 : Option Addr) (c0 : Nat) (rows : List (List Int)) (w : World) (hR : RowsIn w A0 rows) (hRc : rows.length ≤ c0) (h8 : rows.length ≤ 8) :
    Calls Try.prog 6 #[.slice A0 rows.length c0] w fun e w' => e = .returned (.bool true) ∧ Below w.heap.size w w' := by
  obtain ⟨i0, hi, hz0, hz1, hz2⟩ := info_parts info24
  have HR := Lib.hid hR
  clear hR
  go_enter Try.func6, Try.ntmps6
  go_wp2_with fail
  refine (alive_any _).mono ?_
  rintro e W0 ⟨rfl, hb0⟩
  have HB0 := Lib.hid hb0
  clear hb0
  go_wp2_with fail
  have hm : MQ w W0.heap.size 0 0 [] (W0.alloc (Obj.cells #[] 24)) := by
    refine ⟨fun q h => (by cases h), by simp, by simp, HB0.out.alloc HB0.out.size _, ⟨rfl, .inr ⟨_, _, _, rfl, HB0.out.size, World.alloc_heap_new _ _, by simp [ptrs]⟩⟩⟩
  have HM := Lib.hid hm
  clear hm
  go_loopw [3, 27] (fun v idx wr => F1 w rows v idx wr) (fun _ idx _ => rows.length - (intOf idx).toNat)
  case atStart => exact ⟨0, [], _, _, Nat.zero_le _, rfl, rfl, HM.out, rfl, rfl, fun q h => (by cases h), fun _ _ h => absurd h (by omega)⟩
  case round =>
    obtain ⟨k, qs, b, cap, hk, rfl, rfl, hmq, hlen, hxs, hsh, h30a⟩ := hrel
    have H30 := Lib.hid h30a
    have HMQ := Lib.hid hmq
    have HLEN := Lib.hid hlen
    have HXS := Lib.hid hxs
    have HSH := Lib.hid hsh
    clear hmq hlen hxs hsh h30a
    by_cases hlt : k < rows.length
    · obtain ⟨ad, Ak, ck, rfl, hcell, hrd⟩ := rows_at HR.out k hlt
      obtain ⟨row, hrow⟩ : ∃ row, row = rows[k]'hlt := ⟨_, rfl⟩
      rw [← hrow] at hcell hrd
      have HCELL := Lib.hid hcell
      have hcell := pw_cell_below HMQ.out.below hcell
      have HRD := Lib.hid hrd
      have HROW := Lib.hid hrow
      clear hrd hrow
      by_cases h30 : 30 < row.length
      · have d0 : decide ((row.length : Int) > 30) = true := by simp; omega
        go_wp2
        go_ret
        exact ⟨rfl, HMQ.out.below⟩
      · have d0 : decide ((row.length : Int) > 30) = false := by simp; omega
        go_wp2_with fail
        refine (new_any _ _).mono ?_
        rintro e W1 ⟨g, c, rfl, hq1, hg, hc, hb1⟩
        have hheld : held (row.length : Int) = row.length := by unfold held; split <;> split <;> omega
        rw [hheld] at hq1
        have HMM := Lib.hid (HMQ.out.more (q := ⟨g, c, row.length, [], false⟩) (by have := HLEN.out; omega) hb1 hq1 hg hc)
        clear hq1 hg hc hb1 hheld d0
        go_wp2_with fail
        go_loopw [39] (fun idx wr => F1i w b cap k qs g c row idx wr) (fun idx _ => row.length - (intOf idx).toNat)
        case atStart => exact ⟨0, Nat.zero_le _, rfl, HMM.out⟩
        case round =>
          obtain ⟨j, hj, rfl, hmj⟩ := hrel
          have HMJ := Lib.hid hmj
          clear hmj
          by_cases hlt2 : j < row.length
          · obtain ⟨ad2, rfl, hcell2⟩ := (HRD.out.below HMJ.out.below).2.2 (by omega)
            have hc2 := hcell2 j hlt2
            obtain ⟨x, hx⟩ : ∃ x, x = row[j]'hlt2 := ⟨_, rfl⟩
            rw [List.getD_eq_getElem?_getD, List.getElem?_eq_getElem hlt2, Option.getD_some, ← hx] at hc2
            have htk : row.take (j + 1) = row.take j ++ [x] := by rw [List.take_succ_eq_append_getElem hlt2, hx]
            have HTK := Lib.hid htk
            have hq := (HMJ.out.all _ (List.mem_append_right _ (List.mem_singleton.2 rfl))).1
            have HP := Lib.hid (put_room _ g c row.length (row.take j) x hq (by simp; omega))
            clear hcell2 hx htk hq
            go_wp2_with (go_at_call 17; refine HP.out.mono ?_; rintro e w1 ⟨rfl, hq1, ht1⟩; have HN := Lib.hid (HMJ.out.last hq1 ht1 (fun _ h => .inl h)); clear hq1 ht1)
            go_roundw
            case rel => exact ⟨j + 1, by omega, by go_num, by rw [HTK.out]; exact HN.out⟩
            case measure => simp [intOf]; omega
          · obtain rfl : j = row.length := by omega
            have hq := (HMJ.out.all _ (List.mem_append_right _ (List.mem_singleton.2 rfl))).1
            have HP := Lib.hid (shut_any _ g c row.length (row.take row.length) false hq)
            clear hq
            go_wp2_with (first | (go_at_call 18; refine HP.out.mono ?_; rintro e w1 ⟨rfl, hq1, ht1⟩; have HN := Lib.hid (HMJ.out.last hq1 ht1 (fun _ h => h)); clear hq1 ht1) | (at_builtin; refine wpList_append_own _ rfl _ _ 26 rfl w.heap.size 24 i0 (.pointer none) 1 8 Try.underlying26 hi hz0 hz1 hz2 rfl (by decide) _ _ _ rfl (own24 HN.out.row (fun j _ _ h => Below.heap_alloc _ _ j (Array.getElem?_eq_some_iff.1 h).1)) ⟨w1.heap.size, 0, none⟩ 1 1 [.pointer (some ⟨g, 0, none⟩)] rfl rfl (cell_one_new _ _ _) (by simp [Value.oneCell']) (by unfold maxLen; omega) (by omega) (size_one24 HN.out.below _) ?_; intro v' w2 hown' hgrow _; obtain ⟨g', cap', rfl⟩ := ownsRow_succ hown'; have HA := Lib.hid (HN.out.app HLEN.out hown' hgrow); clear hown' hgrow))
            go_roundw
            case rel =>
              refine ⟨k + 1, _, g', cap', by omega, by go_num, rfl, HA.out, by simp [HLEN.out], ?_, ?_, ?_⟩
              · rw [List.map_append, HXS.out, List.take_succ_eq_append_getElem hlt, ← HROW.out]
                simp [QD.to]
              · intro q hm
                rcases List.mem_append.1 hm with hm | hm
                · exact HSH.out q hm
                · obtain rfl := List.mem_singleton.1 hm
                  rfl
              · intro i hi hik
                by_cases e : i = k
                · subst e
                  rw [← HROW.out]
                  omega
                · exact H30.out i hi (by omega)
            case measure => simp [intOf]; omega
    · obtain rfl : k = rows.length := by omega
      obtain ⟨n, hn⟩ : ∃ n, n = rows.length := ⟨_, rfl⟩
      have h2 : F2 w b cap n 0 qs (rows.drop 0) wr := ⟨by rw [hn]; exact HMQ.out, by rw [hn]; exact HLEN.out, by simpa using HXS.out, HSH.out⟩
      have H2 := Lib.hid h2
      have hn8 : n ≤ 8 := by omega
      have HNN := Lib.hid hn
      rw [← hn]
      clear h2 hn HMQ HLEN HXS HSH HM HB0
      go_wp2_with fail
      go_loopw [57] (fun idx wr => F2o w b cap n rows idx wr) (fun idx _ => n - (intOf idx).toNat)
      case atStart => exact ⟨0, qs, Nat.zero_le _, rfl, H2.out⟩
      case round =>
        obtain ⟨i, qs2, hin, rfl, h2⟩ := hrel
        have H3 := Lib.hid h2
        clear h2
        rw [← HNN.out] at hin
        by_cases hlt : i < n
        · have hlt' : i < rows.length := by rw [← HNN.out]; exact hlt
          obtain ⟨ad, Ak, ck, rfl, hcell, hrd⟩ := rows_at HR.out i hlt'
          obtain ⟨row, hrow⟩ : ∃ row, row = rows[i]'hlt' := ⟨_, rfl⟩
          rw [← hrow] at hcell hrd
          have hcell := pw_cell_below H3.out.1.below hcell
          have hdr : rows.drop i = row :: rows.drop (i + 1) := by rw [hrow]; exact List.drop_eq_getElem_cons hlt'
          have HRD := Lib.hid hrd
          have HDR := Lib.hid hdr
          have h30r : row.length ≤ 30 := by rw [hrow]; exact H30.out i hlt' (by omega)
          clear hrd hrow hdr hlt'
          go_wp2_with fail
          go_loopw [64] (fun idx wr => F2i w b cap n i row (rows.drop (i + 1)) idx wr) (fun idx _ => row.length - (intOf idx).toNat)
          case atStart => exact ⟨0, qs2, Nat.zero_le _, rfl, by have := H3.out; rw [HDR.out] at this; exact this⟩
          case round =>
            obtain ⟨j, qs3, hj, rfl, h4⟩ := hrel
            have H4 := Lib.hid h4
            clear h4
            by_cases hlt2 : j < row.length
            · obtain ⟨ad2, rfl, hcell2⟩ := (HRD.out.below H4.out.1.below).2.2 (by omega)
              have hc2 := hcell2 j hlt2
              obtain ⟨x, hx⟩ : ∃ x, x = row[j]'hlt2 := ⟨_, rfl⟩
              rw [List.getD_eq_getElem?_getD, List.getElem?_eq_getElem hlt2, Option.getD_some, ← hx] at hc2
              have h5 := H4.out
              rw [List.drop_eq_getElem_cons hlt2, ← hx] at h5
              have HP := Lib.hid (h5.first (by omega))
              clear hcell2 hx h5
              go_wp2_with (go_at_call 21; refine HP.out.mono ?_; rintro e w1 ⟨rfl, qs4, h6⟩; have H6 := Lib.hid h6; clear h6)
              go_roundw
              case rel => exact ⟨j + 1, qs4, by omega, by go_num, H6.out⟩
              case measure => simp [intOf]; omega
            · obtain rfl : j = row.length := by omega
              have h5 := H4.out
              rw [List.drop_length] at h5
              obtain ⟨g, hcg, hov⟩ := h5.over
              have HOV := Lib.hid hov
              have H5 := Lib.hid h5
              clear hov h5
              go_wp2_with (go_at_call 14; refine HOV.out.mono ?_; rintro e w1 ⟨rfl, rfl⟩)
              go_roundw
              case rel =>
                refine ⟨i + 1, qs3, by rw [← HNN.out]; omega, by go_num, ?_⟩
                have h7 := H5.out
                refine ⟨h7.1, h7.2.1, ?_, h7.2.2.2⟩
                rw [h7.2.2.1, List.replicate_succ']
                simp
              case measure => simp [intOf]; omega
        · obtain rfl : i = n := by omega
          have h5 := H3.out
          have hm := h5.1
          have hl := h5.2.1
          rw [← hl] at hm
          have k := first_none _ b 0 cap qs2 (fun q hq => (hm.all q hq).1) hm.holds (fun q hq => by
            obtain ⟨j, hj, rfl⟩ := List.mem_iff_getElem.1 hq
            exact h5.before j hj (by omega)) (by omega)
          rw [hl] at k
          have HK := Lib.hid k
          clear k hl hm h5
          go_wp2_with (go_at_call 21; refine HK.out.mono ?_; rintro e w1 ⟨rfl, rfl⟩)
          go_ret
          exact ⟨rfl, H3.out.1.below⟩
end Go.Proofs.Ytofemimgjcjpdaa.H
