/- talk: a clean name. -/
import Derived.Test.YtgjicigagfhgmaaTalk
import Derived.Lib.ConvBytes
namespace Go.Proofs.Ytgjicigagfhgmaa.H
open Go.RowKit Go.Proofs.YtgjicigagfhgmaaW.PrintWords Go.Proofs.YtgjicigagfhgmaaW.PrintLast
set_option linter.unusedVariables false
set_option linter.unusedSimpArgs false
theorem ibm_conv (w : World) : ∃ c W1, (convert 9 25 (.string (ByteArray.extract ⟨#[73, 66, 77]⟩ 0 3))).run Try.prog w = .ok (.slice (some ⟨w.heap.size, 0, none⟩) 3 c) W1 ∧ Below w.heap.size w W1 ∧ W1.cell? ⟨w.heap.size, 0, none⟩ = some (.int .u8 73) ∧ W1.cell? ⟨w.heap.size, 1, none⟩ = some (.int .u8 66) ∧ W1.cell? ⟨w.heap.size, 2, none⟩ = some (.int .u8 77) := by
  have h5 : ∃ u, Try.prog.underlying 5 = some u ∧ u = .int .u8 := ⟨_, Try.underlying5, rfl⟩
  refine ⟨_, _, Lib.run_convert_string_bytes (P := Try.prog) w 9 25 5 ⟨#[73, 66, 77]⟩ Try.underlying9 Try.underlying25 Try.underlying5, ?_, ?_, ?_, ?_⟩
  · refine ⟨rfl, rfl, rfl, by rw [Lib.bytesWorld_size]; exact Nat.le_succ _, fun k hk => Lib.bytesWorld_at_old w 5 _ k hk⟩
  · exact (Lib.bytesWorld_cell w 5 ⟨#[73, 66, 77]⟩ 0 (by decide)).trans rfl
  · exact (Lib.bytesWorld_cell w 5 ⟨#[73, 66, 77]⟩ 1 (by decide)).trans rfl
  · exact (Lib.bytesWorld_cell w 5 ⟨#[73, 66, 77]⟩ 2 (by decide)).trans rfl
set_option maxHeartbeats 4000000 in
set_option maxRecDepth 100000 in
theorem clean_p (w : World) : Calls Try.prog 29 #[.string ⟨#[73, 66, 77]⟩] w fun e' w' => ∃ nm, e' = .returned (.string nm) ∧ Below w.heap.size w w' := by
  have hu25 := Try.underlying25
  obtain ⟨c, W1, hcv, hb, c0, c1, c2⟩ := ibm_conv w
  have hR : ReadsInt W1 .u8 (some ⟨w.heap.size, 0, none⟩) 3 [73, 66, 77] := ⟨rfl, by decide, fun _ => ⟨_, rfl, fun j hj => by
    obtain rfl | rfl | rfl : j = 0 ∨ j = 1 ∨ j = 2 := by omega
    · exact c0
    · exact c1
    · exact c2⟩⟩
  have hst := string_of_reads (P := Try.prog) (src := 25) (dst := 9) (c := c) Try.underlying25 Try.underlying5 Try.underlying9 hR
  have HB := Lib.hid hb
  clear hb hR
  generalize w.heap.size = g at *
  go_enter Try.func29, Try.ntmps29
  go_wp2_with fail
  go_loopw [4, 5, 14] (fun v4 v5 v14 wr => ∃ k : Nat, k ≤ 3 ∧ v14 = .int .i64 k ∧ wr = W1) (fun _ _ v14 _ => 3 - (intOf v14).toNat)
  case atStart => exact ⟨0, by omega, rfl, rfl⟩
  case round =>
    obtain ⟨k, hk, rfl, rfl⟩ := hrel
    obtain rfl | rfl | rfl | rfl : k = 0 ∨ k = 1 ∨ k = 2 ∨ k = 3 := by omega
    · go_wp2_with fail
      go_roundw
      case rel => exact ⟨1, by omega, by go_num, by trivial⟩
      case measure => simp [intOf]
    · go_wp2_with fail
      go_roundw
      case rel => exact ⟨2, by omega, by go_num, by trivial⟩
      case measure => simp [intOf]
    · go_wp2_with fail
      go_roundw
      case rel => exact ⟨3, by omega, by go_num, by trivial⟩
      case measure => simp [intOf]
    · go_wp2_with fail
      go_ret
      exact ⟨_, rfl, HB.out⟩
end Go.Proofs.Ytgjicigagfhgmaa.H
