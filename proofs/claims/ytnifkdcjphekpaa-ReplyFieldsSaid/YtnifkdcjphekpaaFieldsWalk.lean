/- ReplyFields: the walk. -/
import Derived.Test.YtnifkdcjphekpaaAllsWalk
import Derived.Test.YtnifkdcjphekpaaAlive
import Derived.Test.YtnifkdcjphekpaaOnlyPure
namespace Go.Proofs.Ytnifkdcjphekpaa.H
open Go.RowKit Go.Proofs.YtnifkdcjphekpaaW.PrintWords Go.Proofs.YtnifkdcjphekpaaW.PrintLast
set_option linter.unusedVariables false
set_option linter.unusedSimpArgs false
/-- The list of the fields' places while it is made. -/
structure St (W3 W : World) (bs : Nat) (v : Value) (ys : List Int) : Prop where
  c : W.heap[bs]? = some (.cells #[v] 38 (0, 0))
  r : W.ownsRow W3.heap.size 3 1 v ys.length (nums .i64 ys)
  b : Below W3.heap.size W3 W
  s : W3.heap.size ≤ bs
theorem St.later {W3 W W1 : World} {bs : Nat} {v : Value} {ys : List Int} (h : St W3 W bs v ys) (hb : Below W.heap.size W W1) : St W3 W1 bs v ys := ⟨blk_below h.c hb, pw_own_below h.r hb, below_step h.b hb, h.s⟩
theorem St.ne {W3 W : World} {bs : Nat} {v : Value} {ys : List Int} (h : W.heap[bs]? = some (.cells #[v] 38 (0, 0))) {u : Value} (hr : W.ownsRow W3.heap.size 3 1 u ys.length (nums .i64 ys)) : some bs ≠ u.ownBlock := fun e => by
  obtain ⟨cells, hc⟩ := own_typed hr bs e.symm
  rw [h] at hc
  injection hc with hc
  injection hc with _ hc
  exact absurd hc (by decide)
theorem St.put {W3 W w1 : World} {bs : Nat} {v v1 : Value} {ys zs : List Int} (h : St W3 W bs v ys) (hown : w1.ownsRow W3.heap.size 3 1 v1 zs.length (nums .i64 zs)) (hb : Below W3.heap.size W3 w1) (hg : W.grownBy w1 v.ownBlock) : w1.heap[bs]? = some (.cells #[v] 38 (0, 0)) ∧ St W3 (w1.setCell ⟨bs, 0, none⟩ v1) bs v1 zs := by
  have h1 := blk_grown h.c hg (St.ne h.c h.r)
  have h2 := St.ne h1 hown
  exact ⟨h1, blk_set h1 0 v1, ownsRow_setCell_other hown (a := ⟨bs, 0, none⟩) (fun e => h2 e.symm) v1, Below.setCell hb (p := ⟨bs, 0, none⟩) h.s v1, h.s⟩
theorem info3 : (Try.prog.info? 3).map (fun i => (i.zero, i.size, i.bytes)) = some (some (.int .i64 0), 1, 8) := by kernel_rfl
set_option maxHeartbeats 4000000 in
set_option maxRecDepth 100000 in
theorem fields_walk (r c a : Int) (xs : List A.S34) (A1 : Option Addr) (c1 : Nat) (w : World) (hC : Kd.C A.k34 w A1 xs.length xs) :
    Calls Try.prog 5 #[.agg #[.int .i64 r, .int .i64 c], .slice A1 xs.length c1, .int .i64 a] w fun e w' => e = .returned (.bool true) ∧ Below w.heap.size w w' := by
  have hu26 := Try.underlying26
  have hu30 := Try.underlying30
  have hu34 := Try.underlying34
  have HC := Lib.hid hC
  have HB0 := Lib.hid (below_alloc (Below.refl w.heap.size w) (.cells #[.int .i64 r, .int .i64 c] 26))
  have HS0 := Lib.hid (heap_alloc_new w (.cells #[.int .i64 r, .int .i64 c] 26))
  clear hC
  by_cases hn : cells r c = 0 ∨ 120 < cells r c
  · go_enter Try.func5, Try.ntmps5
    go_wp2_with (first
      | (go_at_call 7; (with_reducible refine (alive_p _).mono ?_); rintro e w1 ⟨rfl, hb⟩; have HB1 := Lib.hid (below_step HB0.out hb); have hs := blk_below HS0.out hb; have s0 := (blk_cell hs 0).trans rfl; have s1 := (blk_cell hs 1).trans rfl; clear hb hs)
      | (go_at_call 9; (with_reducible refine (made_no r c a hn xs A1 c1 _).mono ?_); rintro e w2 ⟨x0, x1, A2, n2, c2, x3, rfl, hb⟩; have HB2 := Lib.hid (below_step HB1.out hb); clear hb))
    go_ret
    exact ⟨rfl, below_alloc (below_alloc HB2.out _) _⟩
  · have hr := cells_range r c
    have hn1 : 1 ≤ cells r c := by omega
    have hn2 : cells r c ≤ 120 := by omega
    have HN12 := Lib.hid (And.intro hn1 hn2)
    clear hn hr hn1 hn2
    go_enter Try.func5, Try.ntmps5
    go_wp2_with (first
      | (go_at_call 7; (with_reducible refine (alive_p _).mono ?_); rintro e w1 ⟨rfl, hb⟩; have HB1 := Lib.hid (below_step HB0.out hb); have hs := blk_below HS0.out hb; have s0 := (blk_cell hs 0).trans rfl; have s1 := (blk_cell hs 1).trans rfl; clear hb hs)
      | (go_at_call 9; (with_reducible refine (made_q r c a HN12.out.1 HN12.out.2 xs A1 c1 _ (Kd.C_below HC.out HB1.out)).mono ?_); rintro e w2 ⟨cs, p, g, R, c0, R2, c2, rfl, hg, hf, ho, hq, hb⟩; have HB2 := Lib.hid (below_step HB1.out hb); have HO2 := Lib.hid ho; have HQ2 := Lib.hid hq; have HF2 := Lib.hid hf; clear hb ho hq hg hf))
    obtain ⟨W3, hW3⟩ : ∃ W3, W3 = (w2.alloc (.cells #[.pointer (some ⟨g, 0, none⟩)] 28)).alloc (.cells #[.int .i64 r, .int .i64 c, .slice (some ⟨R2, 0, none⟩) cs.length c2, .int .i64 p] 30) := ⟨_, rfl⟩
    have hb23 : Below w2.heap.size w2 W3 := by rw [hW3]; exact below_alloc (below_alloc (Below.refl _ _) _) _
    have HB3 := Lib.hid (below_step HB2.out hb23)
    have HO3 := Lib.hid (HO2.out.later hb23)
    have HQ3 := Lib.hid (HQ2.out.later hb23)
    have HP3 : Hid (W3.heap[w2.heap.size]? = some (.cells #[.pointer (some ⟨g, 0, none⟩)] 28 (0, 0))) := Lib.hid (by rw [hW3]; exact blk_alloc (heap_alloc_new _ _) _)
    have hs3 : W3.heap.size = w2.heap.size + 1 + 1 := by rw [hW3]; simp
    have hf := HF2.out
    have h120 : cs.length ≤ 120 := hf.2.2.1
    rw [← hW3, ← hs3]
    clear hW3 HB2 HO2 HQ2 hf hb23
    have hst : St W3 ((W3.alloc (.cells #[] 3)).alloc (.cells #[.slice (some ⟨W3.heap.size, 0, none⟩) 0 0] 38)) (W3.heap.size + 1) (.slice (some ⟨W3.heap.size, 0, none⟩) 0 0) (startsTo cs 0) := ⟨by have h := heap_alloc_new (W3.alloc (.cells #[] 3)) (.cells #[.slice (some ⟨W3.heap.size, 0, none⟩) 0 0] 38); simpa using h, ⟨rfl, .inr ⟨_, 0, _, rfl, Nat.le_refl _, blk_alloc (heap_alloc_new _ _) _, Nat.le_refl _, by decide, rfl, rfl⟩⟩, below_alloc (below_alloc (Below.refl _ _) _) _, Nat.le_succ _⟩
    have HST := Lib.hid hst
    clear hst
    obtain ⟨bp, hbp⟩ : ∃ bp, w2.heap.size = bp := ⟨_, rfl⟩
    obtain ⟨bs, hbs⟩ : ∃ bs, W3.heap.size + 1 = bs := ⟨_, rfl⟩
    rw [hbp] at HP3
    rw [hbs] at HST
    rw [hbp, hbs]
    clear hs3 hbp hbs
    go_loopw [33] (fun v33 wr => ∃ k v, k ≤ cs.length ∧ v33 = .int .i64 (k : Nat) ∧ St W3 wr bs v (startsTo cs k)) (fun v33 _ => cs.length - (intOf v33).toNat)
    case atStart => exact ⟨0, _, Nat.zero_le _, rfl, HST.out⟩
    case round =>
      clear HST
      obtain ⟨k, v, hk, rfl, hst⟩ := hrel
      obtain ⟨AS, cS, rfl, hcS, hrS⟩ := own_reads_of_le (enc := Value.int .i64) (d := (0 : Int)) (xs := startsTo cs k) hst.r
      have HST := Lib.hid hst
      have HRS := Lib.hid (readsInt_of.2 hrS)
      clear hst hrS
      by_cases hlt : k < cs.length
      · obtain ⟨ad, had, d0, d1, d2, d3, d4⟩ := A.at_T34 ((HQ3.out.later HST.out.b).C (by omega)) (k : Int) (by omega) (by omega)
        obtain rfl : ⟨R2, 0, none⟩ = ad := by injection had
        simp only [addr_mk, Int.toNat_natCast] at d0 d1 d2 d3 d4
        obtain ⟨j, hj⟩ : ∃ j, k * 5 = j := ⟨_, rfl⟩
        have ha : (⟨R2, 0, none⟩ : Addr).add (k * 5) = ⟨R2, j, none⟩ := by rw [addr_mk, hj]
        rw [hj] at d0 d1 d2 d3 d4
        have hcs := starts_succ cs k
        have hsl := starts_len cs k
        obtain ⟨⟨b0, b1, b2, b3, b4⟩, hx⟩ : ∃ x, A.rd_T34 cs (k : Int) = x := ⟨_, rfl⟩
        rw [hx] at d0 d1 d2 d3 d4 hcs
        have HCS := Lib.hid hcs
        clear hcs hx had
        obtain ⟨ys, hys⟩ : ∃ ys, startsTo cs k = ys := ⟨_, rfl⟩
        rw [hys] at HST HRS HCS hsl
        clear hys
        have HS4 := Lib.hid (HST.out.later (below_alloc (Below.refl wr.heap.size wr) (.cells #[.int .u8 b0, .bool b1, .bool b2, .int .u8 b3, .int .u8 b4] 34)))
        have v4 := (blk_cell HS4.out.c 0).trans rfl
        cases b2
        · go_wp2_with fail
          go_roundw
          case rel => exact ⟨k + 1, _, by omega, by go_num, by rw [HCS.out, if_neg Bool.false_ne_true, List.append_nil]; exact HS4.out⟩
          case measure => simp [intOf]; omega
        · go_wp2_with (at_builtin; refine print_append_num (w0 := W3) W3.heap.size rfl (.tmp 40) (.tmp 42) 38 3 .i64 8 rfl Try.underlying38 info3 (by decide) (.slice AS ys.length cS) ys (k : Int) rfl (by rw [World.size_alloc]; rfl) HS4.out.r HS4.out.b HS4.out.b.size (by omega) ?_; intro v8 w8 hown8 hb8 hg8 hat8; obtain ⟨A8, m8, c8, rfl⟩ := own_slice hown8; obtain ⟨h9, hs9⟩ := HS4.out.put hown8 hb8 hg8; have HS9 := Lib.hid hs9; have c9 := (blk_cell h9 0).trans rfl; have f9 := blk_frozen h9 0; clear h9 hs9 hown8 hb8 hg8 hat8)
          go_roundw
          case rel => exact ⟨k + 1, _, by omega, by go_num, by rw [HCS.out, if_pos rfl]; exact HS9.out⟩
          case measure => simp [intOf]; omega
      · obtain rfl : k = cs.length := by omega
        obtain ⟨W5, hW5⟩ : ∃ W5, W5 = wr := ⟨_, rfl⟩
        subst hW5
        have hsl := starts_len cs cs.length
        obtain ⟨ys, hys⟩ : ∃ ys, startsTo cs cs.length = ys := ⟨_, rfl⟩
        have HYS := Lib.hid hys
        rw [hys] at HST HRS hsl
        clear hys
        have c0 := (blk_cell HST.out.c 0).trans rfl
        by_cases hnil : ys.length = 0
        · have e0 : ((ys.length : Int) == 0) = true := beq_iff_eq.2 (by omega)
          clear hnil
          go_wp2_with fail
          go_ret
          exact ⟨rfl, below_step HB3.out HST.out.b⟩
        · have e0 : ((ys.length : Int) == 0) = false := beq_eq_false_iff_ne.2 (by omega)
          obtain ⟨aS, rfl⟩ : ∃ aS, AS = some aS := by obtain ⟨ad, h, _⟩ := HRS.out.2.2 (by omega); exact ⟨ad, h⟩
          have hp0 := HF2.out.2.2.2.1
          have hp1 := HF2.out.2.2.2.2.1
          have hon : ∀ (W : World), Below W5.heap.size W5 W → ∀ one : Int, Calls Try.prog 13 #[.int .i64 one, .pointer (some ⟨bp, 0, none⟩), .pointer (some ⟨bs, 0, none⟩)] W fun e w' => ∃ v, e = .returned v ∧ w'.ownsRow W.heap.size 5 1 v (readL (modsTo cs ys one ys.length) p 125).length (nu (readL (modsTo cs ys one ys.length) p 125)) ∧ Below W.heap.size W w' := fun W hb one => only_p (((HO3.out.later HST.out.b).later hb).isP) hp0 hp1 (blk_below (blk_below HP3.out HST.out.b) hb) (blk_below HST.out.c hb) (HRS.out.below hb) (fun k hk => ⟨(starts_in HYS.out k hk).1, (starts_in HYS.out k hk).2.1⟩) one (by omega)
          have HON := Lib.hid hon
          have HNIL := Lib.hid hnil
          have HP01 := Lib.hid (And.intro hp0 hp1)
          clear hnil hon hp0 hp1
          go_wp2_with (go_at_call 13; (with_reducible refine (HON.out W5 (Below.refl _ _) (-1)).mono ?_); rw [only_none HYS.out HNIL.out p]; rintro e w6 ⟨v6, rfl, ho6, hb6⟩; have ho6 : w6.ownsRow W5.heap.size 5 1 v6 3 (nu (headL p 125)) := ho6; have HR6 := Lib.hid ho6; obtain ⟨A6, c6, rfl, hc6, hr6⟩ := own_reads_of_le (enc := Value.int .u8) (d := (0 : Int)) (xs := headL p 125) ho6; have HB6 := Lib.hid hb6; have cS6 := (blk_cell (blk_below HST.out.c hb6) 0).trans rfl; clear ho6 hb6 hr6)
          have hlb : W5.heap.size ≤ w6.heap.size := HB6.out.size
          go_loopw [14, 56] (fun v14 v56 W => ∃ k : Nat, k ≤ ys.length ∧ v56 = .int .i64 k ∧ W.ownsRow W5.heap.size 5 1 v14 (headL p 125 ++ (ys.take k).flatMap (fldOut cs)).length (nu (headL p 125 ++ (ys.take k).flatMap (fldOut cs))) ∧ Below W5.heap.size W5 W) (fun _ v56 _ => ys.length - (intOf v56).toNat)
          case atStart => exact ⟨0, Nat.zero_le _, rfl, by rw [List.take_zero, List.flatMap_nil, List.append_nil]; exact HR6.out, HB6.out⟩
          case round =>
            clear HR6 HB6 cS6 hlb
            obtain ⟨k, hk, rfl, hr7, hb7⟩ := hrel
            have HR7 := Lib.hid hr7
            have HB7 := Lib.hid hb7
            clear hr7 hb7
            by_cases hlt : k < ys.length
            · obtain ⟨hi0, hi1, hi2⟩ := starts_in HYS.out k hlt
              obtain ⟨aS', haS, ck⟩ := HRS.out.at_ (k : Int) (by omega) (by omega)
              obtain rfl : aS = aS' := by injection haS
              have ck := pw_cell_below HB7.out ck
              simp only [Int.toNat_natCast] at ck
              have hap : (ys.take (k + 1)).flatMap (fldOut cs) = (ys.take k).flatMap (fldOut cs) ++ fldOut cs (rd ys (k : Int)) := by
                have e : ys.take (k + 1) = ys.take k ++ [rd ys (k : Int)] := by
                  rw [List.take_add_one]
                  simp [rd, List.getD, List.getElem?_eq_getElem hlt]
                rw [e, List.flatMap_append]
                simp
              have hone := only_one HYS.out HNIL.out p k hlt
              have hif := fldOut_if cs (rd ys (k : Int))
              have hall : (headL p 125 ++ (ys.take k).flatMap (fldOut cs)).length ≤ 40000000 := by
                have h1 := flat_le (fldOut cs) 8195 (fun x => fldOut_le cs x (by omega)) (ys.take k)
                have h2 : (ys.take k).length ≤ 120 := by rw [List.length_take]; omega
                simp only [headL, List.length_append, List.length_cons, List.length_nil]
                omega
              have hpl : (partF cs (rd ys (k : Int))).length ≤ 10000 := partF_le cs _ (by omega)
              have hp3 : 3 ≤ (partF cs (rd ys (k : Int))).length := by simp [partF]
              obtain ⟨i, hi⟩ : ∃ i, rd ys (k : Int) = i := ⟨_, rfl⟩
              rw [hi] at hap hone hif hpl hp3 ck hi0 hi1
              obtain ⟨acc, hacc⟩ : ∃ acc, headL p 125 ++ (ys.take k).flatMap (fldOut cs) = acc := ⟨_, rfl⟩
              rw [hacc] at HR7 hall
              obtain ⟨pf, hpf⟩ : ∃ pf, partF cs i = pf := ⟨_, rfl⟩
              rw [hpf] at hone hif hpl hp3
              have HACC : Hid (headL p 125 ++ (ys.take (k + 1)).flatMap (fldOut cs) = acc ++ (if bitB cs i = true then pf else [])) := Lib.hid (by rw [hap, ← List.append_assoc, hacc, hif])
              have HONE := Lib.hid hone
              have HLE := Lib.hid (And.intro hall (And.intro hpl hp3))
              have hat := at_p ((HO3.out.later HST.out.b).later HB7.out).isP i hi0 hi1
              obtain ⟨x, hx⟩ : ∃ x, A.rd_T34 cs i = x := ⟨_, rfl⟩
              have hbit : bitB cs i = (Go.bits .and .u8 x.f0 1 == 1) := by rw [bitB, hx]
              rw [hx] at hat
              obtain ⟨b0, b1, b2, b3, b4⟩ := x
              have HAT : Hid (Reads 15 #[.pointer (some ⟨g, 0, none⟩), .int .i64 i] wr (.agg #[.int .u8 b0, .bool b1, .bool b2, .int .u8 b3, .int .u8 b4])) := Lib.hid hat
              have HBIT : Hid (bitB cs i = (Go.bits .and .u8 b0 1 == 1)) := Lib.hid hbit
              have hf0 := A.run_field34_0 b0 b1 b2 b3 b4
              have p7 := (blk_cell (blk_below (blk_below HP3.out HST.out.b) HB7.out) 0).trans rfl
              clear hat hbit hx hap hone hif hi haS hacc hpf hall hpl hp3 hi2
              cases hb : (Go.bits .and .u8 b0 1 == 1)
              · go_wp2_with (go_at_call 15; (with_reducible refine HAT.out.mono ?_); rintro e w8 ⟨rfl, hb8⟩; have HB8 := Lib.hid (below_step HB7.out hb8); have HR8 := Lib.hid (pw_own_below HR7.out hb8); clear hb8)
                go_roundw
                case rel => exact ⟨k + 1, by omega, by go_num, by rw [HACC.out, HBIT.out, hb, if_neg Bool.false_ne_true, List.append_nil]; exact HR8.out, HB8.out⟩
                case measure => simp [intOf]; omega
              · go_wp2_with (first
                  | (go_at_call 15; (with_reducible refine HAT.out.mono ?_); rintro e w8 ⟨rfl, hb8⟩; have HB8 := Lib.hid (below_step HB7.out hb8); have HR8 := Lib.hid (pw_own_below HR7.out hb8); clear hb8)
                  | (go_at_call 13; (with_reducible refine (HON.out w8 HB8.out i).mono ?_); rw [HONE.out]; rintro e w9 ⟨v9, rfl, ho9, hb9⟩; have hl9 : (headL p 125 ++ pf).length = 3 + pf.length := (by { rw [List.length_append]; rfl }); rw [hl9] at ho9; obtain ⟨A9, c9, rfl, hc9, hr9⟩ := own_reads_of_le (enc := Value.int .u8) (d := (0 : Int)) (xs := headL p 125 ++ pf) ho9; obtain ⟨i5, hi5, hz5, hs5, hb5⟩ := info_parts hinfo5; obtain ⟨A', hcut, hA'⟩ := print_cut (P := Try.prog) 35 5 .i64 Try.underlying35 hi5 hs5 A9 (3 + pf.length) c9 3 (by omega); have hA2 := hA' w9 .u8 _ hc9 (readsInt_of.2 hr9); have hd : (headL p 125 ++ pf).drop 3 = pf := rfl; rw [hd, show 3 + pf.length - 3 = pf.length by omega] at hA2; rw [show 3 + pf.length - 3 = pf.length by omega] at hcut; have hcut2 : ∀ W : World, (Instr.slice 35 (.slice A9 (3 + pf.length) c9) (some (.int .i64 3)) none none).run Try.prog W = .ok (.slice A' pf.length (c9 - 3)) W := hcut; have HA2 := Lib.hid hA2; have HB9 := Lib.hid (below_step HB8.out hb9); have HR9 := Lib.hid (pw_own_below HR8.out hb9); clear hb9 ho9 hr9 hA' hA2 hcut hd hl9 hi5 hz5 hs5 hb5)
                  | (at_builtin; refine print_append_row (w0 := W5) W5.heap.size rfl (.tmp 66) (.tmp 70) 35 5 .u8 1 rfl Try.underlying35 hinfo5 (by decide) _ acc pf A' pf.length (c9 - 3) rfl rfl HR9.out HA2.out HB9.out HB9.out.size (by have := HLE.out; omega) ?_; intro v10 w10 hown10 hb10 hg10 hat10; have HB10 := Lib.hid hb10; have HR10 := Lib.hid hown10; clear hown10 hb10 hg10 hat10))
                go_roundw
                case rel => exact ⟨k + 1, by omega, by go_num, by rw [HACC.out, HBIT.out, hb, if_pos rfl]; exact HR10.out, HB10.out⟩
                case measure => simp [intOf]; omega
            · obtain rfl : k = ys.length := by omega
              have hend : (ys.take ys.length).flatMap (fldOut cs) = ys.flatMap (fldOut cs) := by rw [List.take_length]
              rw [hend, ← read_all HYS.out HNIL.out p] at HR7
              have hsz := all_size cs p 125 (by omega)
              have hrs : (readL cs p 125).length ≤ 40000000 := Nat.le_trans (read_cases cs p 125).1 hsz
              have hss := same_self (readL cs p 125) (by omega) (Nat.lt_succ_self _)
              obtain ⟨rl, hrl⟩ : ∃ rl, readL cs p 125 = rl := ⟨_, rfl⟩
              have hread := read_a ((HO3.out.later HST.out.b).later HB7.out).isP HP01.out.1 HP01.out.2 125
              rw [hrl] at HR7 hss hread
              have HSS := Lib.hid hss
              have HREAD := Lib.hid hread
              obtain ⟨A7, c7, rfl, hc7, hr7⟩ := own_reads_of_le (enc := Value.int .u8) (d := (0 : Int)) (xs := rl) HR7.out
              have HD7 := Lib.hid (readsInt_of.2 hr7)
              have p7 := (blk_cell (blk_below (blk_below HP3.out HST.out.b) HB7.out) 0).trans rfl
              clear hss hread hrs hsz hrl hr7 hend
              go_wp2_with (first
                | (go_at_call 11; (with_reducible refine HREAD.out.mono ?_); rintro e w8 ⟨v8, rfl, ho8, hb8⟩; obtain ⟨A8, c8, rfl, hc8, hr8⟩ := own_reads_of_le (enc := Value.int .u8) (d := (0 : Int)) (xs := rl) ho8; have HD8 := Lib.hid (readsInt_of.2 hr8); have HC8 := Lib.hid hc8; have HB8 := Lib.hid (below_step HB7.out hb8); have HE8 := Lib.hid (HD7.out.below hb8); clear hb8 ho8 hr8 hc8)
                | (go_at_call 17; (with_reducible refine (A.greenscreenref01_Same.calls (rl.length + 1) A8 c8 rl A7 c7 rl true _ (C_ints HD8.out) HC8.out (C_ints HE8.out) hc7 HSS.out).mono ?_); rintro e w9 ⟨rfl, hd⟩; obtain ⟨m9, rfl⟩ := hd.out; have HB9 := Lib.hid (pw_below_drewN HB8.out m9)))
              go_ret
              exact ⟨rfl, below_step HB3.out (below_step HST.out.b HB9.out)⟩
end Go.Proofs.Ytnifkdcjphekpaa.H
namespace Go.Proofs.Ytnifkdcjphekpaa.A
open Go.RowKit Go.Proofs.YtnifkdcjphekpaaW.PrintWords
set_option linter.unusedVariables false
def greenscreenlaw23_ReplyFields.f (_ _ : Int) (_ : List S34) (_ : Int) : Option Bool := some true
theorem greenscreenlaw23_ReplyFields.calls (a0_0 a0_1 : Int) (A1 : Option Addr) (c1 : Nat) (l1 : List S34) (a2 : Int) (r : Bool) (hr_ : r = true) (w : World) (hC1 : Kd.C k34 w A1 l1.length l1) (hcl1 : l1.length ≤ c1) (_ : greenscreenlaw23_ReplyFields.f a0_0 a0_1 l1 a2 = some r) :
    Calls Try.prog 5 #[.agg #[.int .i64 a0_0, .int .i64 a0_1], .slice A1 l1.length c1, .int .i64 a2] w fun e w' => e = .returned (.bool r) ∧ Below w.heap.size w w' := by
  subst hr_
  exact H.fields_walk a0_0 a0_1 a2 l1 A1 c1 w hC1
end Go.Proofs.Ytnifkdcjphekpaa.A
