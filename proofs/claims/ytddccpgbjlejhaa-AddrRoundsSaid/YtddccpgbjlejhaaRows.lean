/-
  No cell of these rows narrows 'for every input' (looked for: loops, veiled, ifaces, maps, wideKeys, modest, calm, conditions, laid).
  DERIVED. THE GIVEN ROWS OF THIS SEAT. 5 by the template 'for every input the law returns true; each argument reads behind the call as it read before'; 0 by the template 'total and deterministic' (their statements: YtddccpgbjlejhaaTotals.lean).
  GIVEN WITH THE SEED: the statements are not yours to turn. If you find one false, say at which input.
  Laid BY PROGRAM, IN A SANDBOX (cutbox-rows.mjs): the forced cells as the released guide's own fill.sh prints them over the translation 8394a0ea5b077776… (all of the seat's roots in one cut). By AI agents, Wed Nov 11 2026. No macro, syntax, notation, axiom, sorry.
-/
import Derived.Test.YtddccpgbjlejhaaChecked
import GoSem.Claim
import GoSem.ClaimJoined
import GoSem.ClaimMapViews
import Derived.JoinedTies
import Derived.KernelRfl
namespace Go.Proofs.Ytddccpgbjlejhaa
/- THE CELL 'sum', in the pinned program and in every row, IS THE sha256 OF THE DUMP (.gsa) THAT YtddccpgbjlejhaaProg.lean LOADS. Nothing in Lean hashes anything: it is a label: what it is worth is what the hold of that sum in a sandbox is worth. -/
noncomputable def Try.pinned : Pinned := { name := "ytddccpgbjlejhaa", sum := "8394a0ea5b0777760f564ea6ccf60c1d9a6b83a0a73e14264aaa3dd0f8a2f5f6", checked := Try.checked }
namespace Rows
def none {H : Type} : Left H := { results := [], args := [] }

/-- 'greenscreenlaw02.AddrBytes': WHATEVER THE INPUT: true; the input reads as it did. -/
def addrBytesSpec : ChangeSpec := { name := "addrBytes", fn := fun _ => fun
  | [d1, d2, d3, d4, d5] => { results := [.lit (.bool true)], args := [d1, d2, d3, d4, d5] }
  | _ => none }
def addrBytesRow : OpenClaim := { program := "ytddccpgbjlejhaa", sum := "8394a0ea5b0777760f564ea6ccf60c1d9a6b83a0a73e14264aaa3dd0f8a2f5f6", func := "greenscreen/greenscreenlaw02.AddrBytes", spec := "addrBytes", unfollowed := true, recurses := true, apart := false }
def AddrBytesSaid : Prop := addrBytesRow.holds Try.pinned (OpenSpec.ofChange addrBytesSpec)

/-- ITS FALSE NEIGHBOUR: 'it returns false'. Refute it at one input. -/
def addrBytesWrong : ChangeSpec := { name := "addrBytes", fn := fun _ => fun
  | [d1, d2, d3, d4, d5] => { results := [.lit (.bool false)], args := [d1, d2, d3, d4, d5] }
  | _ => none }
def AddrBytesWrongFalsely : Prop := addrBytesRow.holds Try.pinned (OpenSpec.ofChange addrBytesWrong)

/-- 'greenscreenlaw02.AddrPlaces': WHATEVER THE INPUT: true; the input reads as it did. -/
def addrPlacesSpec : ChangeSpec := { name := "addrPlaces", fn := fun _ => fun
  | [d1, d2, d3, d4, d5, d6] => { results := [.lit (.bool true)], args := [d1, d2, d3, d4, d5, d6] }
  | _ => none }
def addrPlacesRow : OpenClaim := { program := "ytddccpgbjlejhaa", sum := "8394a0ea5b0777760f564ea6ccf60c1d9a6b83a0a73e14264aaa3dd0f8a2f5f6", func := "greenscreen/greenscreenlaw02.AddrPlaces", spec := "addrPlaces", unfollowed := true, recurses := true, apart := false }
def AddrPlacesSaid : Prop := addrPlacesRow.holds Try.pinned (OpenSpec.ofChange addrPlacesSpec)

/-- ITS FALSE NEIGHBOUR: 'it returns false'. Refute it at one input. -/
def addrPlacesWrong : ChangeSpec := { name := "addrPlaces", fn := fun _ => fun
  | [d1, d2, d3, d4, d5, d6] => { results := [.lit (.bool false)], args := [d1, d2, d3, d4, d5, d6] }
  | _ => none }
def AddrPlacesWrongFalsely : Prop := addrPlacesRow.holds Try.pinned (OpenSpec.ofChange addrPlacesWrong)

/-- 'greenscreenlaw02.AddrBack': WHATEVER THE INPUT: true; the input reads as it did. -/
def addrBackSpec : ChangeSpec := { name := "addrBack", fn := fun _ => fun
  | [d1, d2] => { results := [.lit (.bool true)], args := [d1, d2] }
  | _ => none }
def addrBackRow : OpenClaim := { program := "ytddccpgbjlejhaa", sum := "8394a0ea5b0777760f564ea6ccf60c1d9a6b83a0a73e14264aaa3dd0f8a2f5f6", func := "greenscreen/greenscreenlaw02.AddrBack", spec := "addrBack", unfollowed := true, recurses := true, apart := false }
def AddrBackSaid : Prop := addrBackRow.holds Try.pinned (OpenSpec.ofChange addrBackSpec)

/-- ITS FALSE NEIGHBOUR: 'it returns false'. Refute it at one input. -/
def addrBackWrong : ChangeSpec := { name := "addrBack", fn := fun _ => fun
  | [d1, d2] => { results := [.lit (.bool false)], args := [d1, d2] }
  | _ => none }
def AddrBackWrongFalsely : Prop := addrBackRow.holds Try.pinned (OpenSpec.ofChange addrBackWrong)

/-- 'greenscreenlaw02.AddrRounds': WHATEVER THE INPUT: true; the input reads as it did. -/
def addrRoundsSpec : ChangeSpec := { name := "addrRounds", fn := fun _ => fun
  | [d1, d2, d3, d4, d5] => { results := [.lit (.bool true)], args := [d1, d2, d3, d4, d5] }
  | _ => none }
def addrRoundsRow : OpenClaim := { program := "ytddccpgbjlejhaa", sum := "8394a0ea5b0777760f564ea6ccf60c1d9a6b83a0a73e14264aaa3dd0f8a2f5f6", func := "greenscreen/greenscreenlaw02.AddrRounds", spec := "addrRounds", unfollowed := true, recurses := true, apart := false }
def AddrRoundsSaid : Prop := addrRoundsRow.holds Try.pinned (OpenSpec.ofChange addrRoundsSpec)

/-- ITS FALSE NEIGHBOUR: 'it returns false'. Refute it at one input. -/
def addrRoundsWrong : ChangeSpec := { name := "addrRounds", fn := fun _ => fun
  | [d1, d2, d3, d4, d5] => { results := [.lit (.bool false)], args := [d1, d2, d3, d4, d5] }
  | _ => none }
def AddrRoundsWrongFalsely : Prop := addrRoundsRow.holds Try.pinned (OpenSpec.ofChange addrRoundsWrong)

/-- 'greenscreenlaw02.AddrDigits': WHATEVER THE INPUT: true; the input reads as it did. -/
def addrDigitsSpec : ChangeSpec := { name := "addrDigits", fn := fun _ => fun
  | [d1, d2, d3, d4] => { results := [.lit (.bool true)], args := [d1, d2, d3, d4] }
  | _ => none }
def addrDigitsRow : OpenClaim := { program := "ytddccpgbjlejhaa", sum := "8394a0ea5b0777760f564ea6ccf60c1d9a6b83a0a73e14264aaa3dd0f8a2f5f6", func := "greenscreen/greenscreenlaw02.AddrDigits", spec := "addrDigits", unfollowed := true, recurses := true, apart := false }
def AddrDigitsSaid : Prop := addrDigitsRow.holds Try.pinned (OpenSpec.ofChange addrDigitsSpec)

/-- ITS FALSE NEIGHBOUR: 'it returns false'. Refute it at one input. -/
def addrDigitsWrong : ChangeSpec := { name := "addrDigits", fn := fun _ => fun
  | [d1, d2, d3, d4] => { results := [.lit (.bool false)], args := [d1, d2, d3, d4] }
  | _ => none }
def AddrDigitsWrongFalsely : Prop := addrDigitsRow.holds Try.pinned (OpenSpec.ofChange addrDigitsWrong)

/- THE SECOND FORM. 'bulk': how many values and letters a reading holds, each counted each time it is reached (what is shared counts as often as it is met; a slice's spare places count too). A statement '..UptoSaid' is the law's where the arguments, and the package variables that the reading takes, are together of bulk at most 1048576: NARROWER than '..Said'. Prove '..Said' where nothing that the law and all that it calls make is longer than what came in: it says more and counts as full. Else prove '..UptoSaid'. A law counts once. -/
mutual
def uptoBulk {H : Type} : DataW H → Nat
  | .lit (.string bytes) => bytes.length + 1
  | .lit _ => 1
  | .nil => 1
  | .ptr d => uptoBulk d + 1
  | .slice elems spare => uptoBulkAll elems + uptoBulkAll spare + 1
  | .agg parts => uptoBulkAll parts + 1
  | .iface _ d => uptoBulk d + 1
  | .map entries => uptoBulkEntries entries + 1
  | .held _ => 1
def uptoBulkAll {H : Type} : List (DataW H) → Nat
  | [] => 0
  | d :: r => uptoBulk d + uptoBulkAll r
def uptoBulkEntries {H : Type} : List (Lit × DataW H) → Nat
  | [] => 0
  | x :: r => uptoBulkEntry x + uptoBulkEntries r
def uptoBulkEntry {H : Type} : Lit × DataW H → Nat
  | (.string bytes, d) => bytes.length + uptoBulk d + 1
  | (_, d) => uptoBulk d + 1
 end
def uptoSmall : (H : Type) → List (DataW H) → Bool := fun _ ds => decide (uptoBulkAll ds ≤ 1048576)
def OpenSpec.upto (s : _root_.Go.ChangeSpec) : _root_.Go.OpenSpec := { _root_.Go.OpenSpec.ofChange s with cond := some uptoSmall }

/-- 'greenscreenlaw02.AddrBytes', WHERE WHAT IT READS IS OF BULK AT MOST 1048576: true; the input reads as it did. -/
def addrBytesUptoRow : OpenClaim := { program := "ytddccpgbjlejhaa", sum := "8394a0ea5b0777760f564ea6ccf60c1d9a6b83a0a73e14264aaa3dd0f8a2f5f6", func := "greenscreen/greenscreenlaw02.AddrBytes", spec := "addrBytes", unfollowed := true, recurses := true, apart := false, narrowed := true }
def AddrBytesUptoSaid : Prop := addrBytesUptoRow.holds Try.pinned (OpenSpec.upto addrBytesSpec)

/-- 'greenscreenlaw02.AddrPlaces', WHERE WHAT IT READS IS OF BULK AT MOST 1048576: true; the input reads as it did. -/
def addrPlacesUptoRow : OpenClaim := { program := "ytddccpgbjlejhaa", sum := "8394a0ea5b0777760f564ea6ccf60c1d9a6b83a0a73e14264aaa3dd0f8a2f5f6", func := "greenscreen/greenscreenlaw02.AddrPlaces", spec := "addrPlaces", unfollowed := true, recurses := true, apart := false, narrowed := true }
def AddrPlacesUptoSaid : Prop := addrPlacesUptoRow.holds Try.pinned (OpenSpec.upto addrPlacesSpec)

/-- 'greenscreenlaw02.AddrBack', WHERE WHAT IT READS IS OF BULK AT MOST 1048576: true; the input reads as it did. -/
def addrBackUptoRow : OpenClaim := { program := "ytddccpgbjlejhaa", sum := "8394a0ea5b0777760f564ea6ccf60c1d9a6b83a0a73e14264aaa3dd0f8a2f5f6", func := "greenscreen/greenscreenlaw02.AddrBack", spec := "addrBack", unfollowed := true, recurses := true, apart := false, narrowed := true }
def AddrBackUptoSaid : Prop := addrBackUptoRow.holds Try.pinned (OpenSpec.upto addrBackSpec)

/-- 'greenscreenlaw02.AddrRounds', WHERE WHAT IT READS IS OF BULK AT MOST 1048576: true; the input reads as it did. -/
def addrRoundsUptoRow : OpenClaim := { program := "ytddccpgbjlejhaa", sum := "8394a0ea5b0777760f564ea6ccf60c1d9a6b83a0a73e14264aaa3dd0f8a2f5f6", func := "greenscreen/greenscreenlaw02.AddrRounds", spec := "addrRounds", unfollowed := true, recurses := true, apart := false, narrowed := true }
def AddrRoundsUptoSaid : Prop := addrRoundsUptoRow.holds Try.pinned (OpenSpec.upto addrRoundsSpec)

/-- 'greenscreenlaw02.AddrDigits', WHERE WHAT IT READS IS OF BULK AT MOST 1048576: true; the input reads as it did. -/
def addrDigitsUptoRow : OpenClaim := { program := "ytddccpgbjlejhaa", sum := "8394a0ea5b0777760f564ea6ccf60c1d9a6b83a0a73e14264aaa3dd0f8a2f5f6", func := "greenscreen/greenscreenlaw02.AddrDigits", spec := "addrDigits", unfollowed := true, recurses := true, apart := false, narrowed := true }
def AddrDigitsUptoSaid : Prop := addrDigitsUptoRow.holds Try.pinned (OpenSpec.upto addrDigitsSpec)

end Rows
end Go.Proofs.Ytddccpgbjlejhaa
