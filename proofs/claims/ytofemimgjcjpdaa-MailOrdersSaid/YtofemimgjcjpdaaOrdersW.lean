/- MailOrders: the walk over the law's text. -/
import Derived.Test.YtofemimgjcjpdaaOrders
namespace Go.Proofs.Ytofemimgjcjpdaa.H
open Go.Conc Go.RowKit Go.Shelf
open Go.Proofs.YtofemimgjcjpdaaW.PrintMore in
attribute [local go_sem] max2_int min2_int max_two min_two
set_option linter.unusedVariables false
set_option linter.unusedSimpArgs false

set_option maxHeartbeats 8000000 in
set_option maxRecDepth 100000 in
theorem orders_calls (room : Int) (A1 : Option Addr) (c1 : Nat) (ops : List A.S33) (w : World) (hR : Go.Proofs.YtofemimgjcjpdaaW.PrintWords.Kd.C A.k33 w A1 ops.length ops) (h80 : ops.length ≤ 80) :
    Calls Try.prog 4 #[.int .i64 room, .slice A1 ops.length c1] w fun e w' => e = .returned (.bool true) ∧ Below w.heap.size w w' := by
  have HR := Lib.hid hR
  clear hR
  go_enter Try.func4, Try.ntmps4
  go_wp2_with fail
  refine (alive_any _).mono ?_
  rintro e W0 ⟨rfl, hb0⟩
  have HB0 := Lib.hid hb0
  clear hb0
  go_wp2_with fail
  refine (new_any _ room).mono ?_
  rintro e W1 ⟨g, c, rfl, hq1, hg, hc, hb1⟩
  obtain ⟨m, hm⟩ : ∃ m, m = held room := ⟨_, rfl⟩
  rw [← hm] at hq1
  have hml : m ≤ 1024 := by rw [hm]; exact held_le room
  have hs := HB0.out.size
  have H0 := Lib.hid (OQ.mk (w := w) (g := g) (c := c) (m := m) (o := 0) (i := 0) (sh := false) (W := W1) (by simpa [seg] using hq1) (HB0.out.trans (hb1.mono hs)) (by omega) (by omega) (by omega) (by omega))
  have hv : (if 1024 < (if room < 0 then 0 else room) then (1024 : Int) else (if room < 0 then 0 else room)) = m := by rw [hm]; unfold held; split <;> split <;> omega
  obtain ⟨R, hv1⟩ : ∃ R, (if room < 0 then 0 else room) = R := ⟨_, rfl⟩
  rw [hv1] at hv
  clear hq1 hg hc hb1 hm hs HB0
  go_wp2_with fail
  clear hv hv1
  obtain ⟨n, hn⟩ : ∃ n, n = ops.length := ⟨_, rfl⟩
  have HNN := Lib.hid hn
  have hn80 : n ≤ 80 := by omega
  rw [← hn]
  clear hn h80
  go_loopw [7, 8, 9, 27] (fun a b d e wr => OR w g c m n a b d e wr) (fun _ _ _ e _ => n - (intOf e).toNat)
  case atStart => exact ⟨0, 0, 0, false, Nat.zero_le _, Nat.le_refl _, rfl, rfl, rfl, rfl, H0.out⟩
  case round =>
    obtain ⟨k, o, i, sh, hk, hik, rfl, rfl, rfl, rfl, hq⟩ := hrel
    have hoi := hq.oi
    have him := hq.im
    have HQ := Lib.hid hq
    clear hq
    by_cases hlt : k < n
    · have hlt' : k < ops.length := by rw [← HNN.out]; exact hlt
      obtain ⟨ad, rfl, hc0, hc1, hc2⟩ := A.ops_at HR.out k hlt'
      obtain ⟨⟨K, X, B⟩, hop⟩ : ∃ op, op = ops[k]'hlt' := ⟨_, rfl⟩
      rw [← hop] at hc0 hc1 hc2
      have hc0 := Go.Proofs.YtofemimgjcjpdaaW.PrintWords.pw_cell_below HQ.out.b hc0
      have hc1 := Go.Proofs.YtofemimgjcjpdaaW.PrintWords.pw_cell_below HQ.out.b hc1
      have hc2 := Go.Proofs.YtofemimgjcjpdaaW.PrintWords.pw_cell_below HQ.out.b hc2
      dsimp only at hc0 hc1 hc2
      have HA := Lib.hid (HQ.out.alloc (Obj.cells #[.int .i64 K, .int .i64 X, .bool B] 33))
      clear hop hlt'
      by_cases hK0 : K = 0
      · subst hK0
        cases sh
        · by_cases hr : i < o + m
          · have HP := Lib.hid (HA.out.put hr)
            go_wp2_with (first | (go_at_call 17; (refine HP.out.mono ?_); rintro e w1 ⟨rfl, h1⟩; have HN := Lib.hid h1; (try clear h1)) | (go_at_call 11; (refine (HN.out.len).mono ?_); rintro e w3 ⟨rfl, rfl⟩) | (go_at_call 14; (refine (HN.out.over false (by simp; first | done | omega)).mono ?_); rintro e w3 ⟨rfl, rfl⟩))
            go_roundw
            case rel => exact ⟨k + 1, o, i + 1, false, by omega, by omega, by go_num, by go_num, rfl, by go_num, HN.out⟩
            case measure => simp [intOf]; omega
          · have HP := Lib.hid (HA.out.full (by omega))
            go_wp2_with (first | (go_at_call 17; (refine HP.out.mono ?_); rintro e w1 ⟨rfl, rfl⟩; have HN := Lib.hid HA.out; (try clear h1)) | (go_at_call 11; (refine (HN.out.len).mono ?_); rintro e w3 ⟨rfl, rfl⟩) | (go_at_call 14; (refine (HN.out.over false (by simp; first | done | omega)).mono ?_); rintro e w3 ⟨rfl, rfl⟩))
            go_roundw
            case rel => exact ⟨k + 1, o, i, false, by omega, by omega, by go_num, by go_num, rfl, by go_num, HN.out⟩
            case measure => simp [intOf]; omega
        · by_cases hz : i = o
          · subst hz
            have HP := Lib.hid HA.out.gone
            go_wp2_with (first | (go_at_call 17; (refine HP.out.mono ?_); rintro e w1 ⟨rfl, rfl⟩; have HN := Lib.hid HA.out; (try clear h1)) | (go_at_call 11; (refine (HN.out.len).mono ?_); rintro e w3 ⟨rfl, rfl⟩) | (go_at_call 14; (refine (HN.out.over true (by simp; first | done | omega)).mono ?_); rintro e w3 ⟨rfl, rfl⟩))
            go_roundw
            case rel => exact ⟨k + 1, i, i, true, by omega, by omega, by go_num, by go_num, rfl, by go_num, HN.out⟩
            case measure => simp [intOf]; omega
          · have hlt3 : o < i := by omega
            have hne3 : ((i : Int) == (o : Int)) = false := by simp; omega
            have HP := Lib.hid HA.out.gone
            go_wp2_with (first | (go_at_call 17; (refine HP.out.mono ?_); rintro e w1 ⟨rfl, rfl⟩; have HN := Lib.hid HA.out; (try clear h1)) | (go_at_call 11; (refine (HN.out.len).mono ?_); rintro e w3 ⟨rfl, rfl⟩) | (go_at_call 14; (refine (HN.out.over false (by simp; first | done | omega)).mono ?_); rintro e w3 ⟨rfl, rfl⟩))
            go_roundw
            case rel => exact ⟨k + 1, o, i, true, by omega, by omega, by go_num, by go_num, rfl, by go_num, HN.out⟩
            case measure => simp [intOf]; omega
      · by_cases hK1 : K = 1
        · subst hK1
          cases sh
          · by_cases hr : i < o + m
            · have HP := Lib.hid (HA.out.put hr)
              go_wp2_with (first | (go_at_call 17; (refine HP.out.mono ?_); rintro e w1 ⟨rfl, h1⟩; have HN := Lib.hid h1; (try clear h1)) | (go_at_call 11; (refine (HN.out.len).mono ?_); rintro e w3 ⟨rfl, rfl⟩) | (go_at_call 14; (refine (HN.out.over false (by simp; first | done | omega)).mono ?_); rintro e w3 ⟨rfl, rfl⟩))
              go_roundw
              case rel => exact ⟨k + 1, o, i + 1, false, by omega, by omega, by go_num, by go_num, rfl, by go_num, HN.out⟩
              case measure => simp [intOf]; omega
            · have HP := Lib.hid (HA.out.full (by omega))
              go_wp2_with (first | (go_at_call 17; (refine HP.out.mono ?_); rintro e w1 ⟨rfl, rfl⟩; have HN := Lib.hid HA.out; (try clear h1)) | (go_at_call 11; (refine (HN.out.len).mono ?_); rintro e w3 ⟨rfl, rfl⟩) | (go_at_call 14; (refine (HN.out.over false (by simp; first | done | omega)).mono ?_); rintro e w3 ⟨rfl, rfl⟩))
              go_roundw
              case rel => exact ⟨k + 1, o, i, false, by omega, by omega, by go_num, by go_num, rfl, by go_num, HN.out⟩
              case measure => simp [intOf]; omega
          · by_cases hz : i = o
            · subst hz
              have HP := Lib.hid HA.out.gone
              go_wp2_with (first | (go_at_call 17; (refine HP.out.mono ?_); rintro e w1 ⟨rfl, rfl⟩; have HN := Lib.hid HA.out; (try clear h1)) | (go_at_call 11; (refine (HN.out.len).mono ?_); rintro e w3 ⟨rfl, rfl⟩) | (go_at_call 14; (refine (HN.out.over true (by simp; first | done | omega)).mono ?_); rintro e w3 ⟨rfl, rfl⟩))
              go_roundw
              case rel => exact ⟨k + 1, i, i, true, by omega, by omega, by go_num, by go_num, rfl, by go_num, HN.out⟩
              case measure => simp [intOf]; omega
            · have hlt3 : o < i := by omega
              have hne3 : ((i : Int) == (o : Int)) = false := by simp; omega
              have HP := Lib.hid HA.out.gone
              go_wp2_with (first | (go_at_call 17; (refine HP.out.mono ?_); rintro e w1 ⟨rfl, rfl⟩; have HN := Lib.hid HA.out; (try clear h1)) | (go_at_call 11; (refine (HN.out.len).mono ?_); rintro e w3 ⟨rfl, rfl⟩) | (go_at_call 14; (refine (HN.out.over false (by simp; first | done | omega)).mono ?_); rintro e w3 ⟨rfl, rfl⟩))
              go_roundw
              case rel => exact ⟨k + 1, o, i, true, by omega, by omega, by go_num, by go_num, rfl, by go_num, HN.out⟩
              case measure => simp [intOf]; omega
        · by_cases hK2 : K = 2
          · subst hK2
            cases sh
            · by_cases hr : i < o + m
              · have HP := Lib.hid (HA.out.put hr)
                go_wp2_with (first | (go_at_call 17; (refine HP.out.mono ?_); rintro e w1 ⟨rfl, h1⟩; have HN := Lib.hid h1; (try clear h1)) | (go_at_call 11; (refine (HN.out.len).mono ?_); rintro e w3 ⟨rfl, rfl⟩) | (go_at_call 14; (refine (HN.out.over false (by simp; first | done | omega)).mono ?_); rintro e w3 ⟨rfl, rfl⟩))
                go_roundw
                case rel => exact ⟨k + 1, o, i + 1, false, by omega, by omega, by go_num, by go_num, rfl, by go_num, HN.out⟩
                case measure => simp [intOf]; omega
              · have HP := Lib.hid (HA.out.full (by omega))
                go_wp2_with (first | (go_at_call 17; (refine HP.out.mono ?_); rintro e w1 ⟨rfl, rfl⟩; have HN := Lib.hid HA.out; (try clear h1)) | (go_at_call 11; (refine (HN.out.len).mono ?_); rintro e w3 ⟨rfl, rfl⟩) | (go_at_call 14; (refine (HN.out.over false (by simp; first | done | omega)).mono ?_); rintro e w3 ⟨rfl, rfl⟩))
                go_roundw
                case rel => exact ⟨k + 1, o, i, false, by omega, by omega, by go_num, by go_num, rfl, by go_num, HN.out⟩
                case measure => simp [intOf]; omega
            · by_cases hz : i = o
              · subst hz
                have HP := Lib.hid HA.out.gone
                go_wp2_with (first | (go_at_call 17; (refine HP.out.mono ?_); rintro e w1 ⟨rfl, rfl⟩; have HN := Lib.hid HA.out; (try clear h1)) | (go_at_call 11; (refine (HN.out.len).mono ?_); rintro e w3 ⟨rfl, rfl⟩) | (go_at_call 14; (refine (HN.out.over true (by simp; first | done | omega)).mono ?_); rintro e w3 ⟨rfl, rfl⟩))
                go_roundw
                case rel => exact ⟨k + 1, i, i, true, by omega, by omega, by go_num, by go_num, rfl, by go_num, HN.out⟩
                case measure => simp [intOf]; omega
              · have hlt3 : o < i := by omega
                have hne3 : ((i : Int) == (o : Int)) = false := by simp; omega
                have HP := Lib.hid HA.out.gone
                go_wp2_with (first | (go_at_call 17; (refine HP.out.mono ?_); rintro e w1 ⟨rfl, rfl⟩; have HN := Lib.hid HA.out; (try clear h1)) | (go_at_call 11; (refine (HN.out.len).mono ?_); rintro e w3 ⟨rfl, rfl⟩) | (go_at_call 14; (refine (HN.out.over false (by simp; first | done | omega)).mono ?_); rintro e w3 ⟨rfl, rfl⟩))
                go_roundw
                case rel => exact ⟨k + 1, o, i, true, by omega, by omega, by go_num, by go_num, rfl, by go_num, HN.out⟩
                case measure => simp [intOf]; omega
          · have e0 : (K == 0) = false := by simpa using hK0
            have e1 : (K == 1) = false := by simpa using hK1
            have e2 : (K == 2) = false := by simpa using hK2
            clear hK0 hK1 hK2
            by_cases hK5 : K = 5
            · subst hK5
              by_cases hz : i = o
              · subst hz
                go_wp2_with (first | (go_at_call 18; (refine HA.out.shut.mono ?_); rintro e w1 ⟨rfl, h1⟩; have HN := Lib.hid h1; clear h1) | (go_at_call 11; (refine (HN.out.len).mono ?_); rintro e w3 ⟨rfl, rfl⟩) | (go_at_call 14; (refine (HN.out.over true (by simp; first | done | omega)).mono ?_); rintro e w3 ⟨rfl, rfl⟩))
                go_roundw
                case rel => exact ⟨k + 1, i, i, true, by omega, by omega, by go_num, by go_num, rfl, by go_num, HN.out⟩
                case measure => simp [intOf]; omega
              · have hlt3 : o < i := by omega
                have hne3 : ((i : Int) == (o : Int)) = false := by simp; omega
                go_wp2_with (first | (go_at_call 18; (refine HA.out.shut.mono ?_); rintro e w1 ⟨rfl, h1⟩; have HN := Lib.hid h1; clear h1) | (go_at_call 11; (refine (HN.out.len).mono ?_); rintro e w3 ⟨rfl, rfl⟩) | (go_at_call 14; (refine (HN.out.over false (by simp; first | done | omega)).mono ?_); rintro e w3 ⟨rfl, rfl⟩))
                go_roundw
                case rel => exact ⟨k + 1, o, i, true, by omega, by omega, by go_num, by go_num, rfl, by go_num, HN.out⟩
                case measure => simp [intOf]; omega
            · have e5 : (K == 5) = false := by simpa using hK5
              clear hK5
              by_cases hz : i = o
              · subst hz
                cases sh
                · have HP := Lib.hid (HA.out.empty (Nat.le_refl _))
                  go_wp2_with (first | (go_at_call 19; (refine HP.out.mono ?_); rintro e w1 ⟨rfl, rfl⟩; have HN := Lib.hid HA.out; (try clear h1)) | (go_at_call 11; (refine (HN.out.len).mono ?_); rintro e w3 ⟨rfl, rfl⟩) | (go_at_call 14; (refine (HN.out.over false (by simp; first | done | omega)).mono ?_); rintro e w3 ⟨rfl, rfl⟩))
                  go_roundw
                  case rel => exact ⟨k + 1, i, i, false, by omega, by omega, by go_num, by go_num, rfl, by go_num, HN.out⟩
                  case measure => simp [intOf]; omega
                · have HP := Lib.hid (HA.out.empty (Nat.le_refl _))
                  go_wp2_with (first | (go_at_call 19; (refine HP.out.mono ?_); rintro e w1 ⟨rfl, rfl⟩; have HN := Lib.hid HA.out; (try clear h1)) | (go_at_call 11; (refine (HN.out.len).mono ?_); rintro e w3 ⟨rfl, rfl⟩) | (go_at_call 14; (refine (HN.out.over true (by simp; first | done | omega)).mono ?_); rintro e w3 ⟨rfl, rfl⟩))
                  go_roundw
                  case rel => exact ⟨k + 1, i, i, true, by omega, by omega, by go_num, by go_num, rfl, by go_num, HN.out⟩
                  case measure => simp [intOf]; omega
              · have hlt3 : o < i := by omega
                have HP := Lib.hid (HA.out.get hlt3)
                cases sh
                · go_wp2_with (first | (go_at_call 19; (refine HP.out.mono ?_); rintro e w1 ⟨rfl, h1⟩; have HN := Lib.hid h1; (try clear h1)) | (go_at_call 11; (refine (HN.out.len).mono ?_); rintro e w3 ⟨rfl, rfl⟩) | (go_at_call 14; (refine (HN.out.over false (by simp; first | done | omega)).mono ?_); rintro e w3 ⟨rfl, rfl⟩))
                  go_roundw
                  case rel => exact ⟨k + 1, o + 1, i, false, by omega, by omega, by go_num, by go_num, rfl, by go_num, HN.out⟩
                  case measure => simp [intOf]; omega
                · by_cases hz2 : i = o + 1
                  · subst hz2
                    go_wp2_with (first | (go_at_call 19; (refine HP.out.mono ?_); rintro e w1 ⟨rfl, h1⟩; have HN := Lib.hid h1; (try clear h1)) | (go_at_call 11; (refine (HN.out.len).mono ?_); rintro e w3 ⟨rfl, rfl⟩) | (go_at_call 14; (refine (HN.out.over true (by simp; first | done | omega)).mono ?_); rintro e w3 ⟨rfl, rfl⟩))
                    go_roundw
                    case rel => exact ⟨k + 1, o + 1, o + 1, true, by omega, by omega, by go_num, by go_num, rfl, by go_num, HN.out⟩
                    case measure => simp [intOf]; omega
                  · have hlt4 : o + 1 < i := by omega
                    have hne4 : ((i : Int) == (o : Int) + 1) = false := by simp; omega
                    go_wp2_with (first | (go_at_call 19; (refine HP.out.mono ?_); rintro e w1 ⟨rfl, h1⟩; have HN := Lib.hid h1; (try clear h1)) | (go_at_call 11; (refine (HN.out.len).mono ?_); rintro e w3 ⟨rfl, rfl⟩) | (go_at_call 14; (refine (HN.out.over false (by simp; first | done | omega)).mono ?_); rintro e w3 ⟨rfl, rfl⟩))
                    go_roundw
                    case rel => exact ⟨k + 1, o + 1, i, true, by omega, by omega, by go_num, by go_num, rfl, by go_num, HN.out⟩
                    case measure => simp [intOf]; omega
    · obtain rfl : k = n := by omega
      go_wp2_with fail
      refine (taken_all _ g c m (seg o (i - o)) sh HQ.out.q (by rw [seg_length]; omega)).mono ?_
      rintro e w1 ⟨Ad, cp, rfl, _, _, _, hq1, ht1⟩
      have HL := Lib.hid (len_any _ _ _ _ _ _ hq1)
      have HB := Lib.hid (HQ.out.b.trans (ht1.below HQ.out.b.size (fun j e => by subst e; exact HQ.out.c0)))
      clear hq1 ht1
      rw [seg_length]
      obtain ⟨d, hd⟩ : ∃ d, d = i - o := ⟨_, rfl⟩
      have he : ((d : Int) == (i : Int) - (o : Int)) = true := by simp; omega
      rw [← hd]
      clear hd
      go_wp2_with (go_at_call 11; (refine HL.out.mono ?_); rintro e w3 ⟨rfl, rfl⟩)
      go_ret
      exact ⟨rfl, HB.out⟩
end Go.Proofs.Ytofemimgjcjpdaa.H
