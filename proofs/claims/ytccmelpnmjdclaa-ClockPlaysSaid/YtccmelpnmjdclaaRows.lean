/-
  No cell of these rows narrows 'for every input' (looked for: loops, veiled, ifaces, maps, wideKeys, modest, calm, conditions, laid).
  DERIVED. THE GIVEN ROWS OF THIS SEAT. 4 by the template 'for every input the law returns true; each argument reads behind the call as it read before'; 0 by the template 'total and deterministic' (their statements: YtccmelpnmjdclaaTotals.lean).
  GIVEN WITH THE SEED: the statements are not yours to turn. If you find one false, say at which input.
  Laid BY PROGRAM, IN A SANDBOX (cutbox-rows.mjs): the forced cells as the released guide's own fill.sh prints them over the translation 97739ac575a15ebe… (all of the seat's roots in one cut). By AI agents, Wed Nov 11 2026. No macro, syntax, notation, axiom, sorry.
-/
import Derived.Test.YtccmelpnmjdclaaChecked
import GoSem.Claim
import GoSem.ClaimJoined
import GoSem.ClaimMapViews
import Derived.JoinedTies
import Derived.KernelRfl
namespace Go.Proofs.Ytccmelpnmjdclaa
/- THE CELL 'sum', in the pinned program and in every row, IS THE sha256 OF THE DUMP (.gsa) THAT YtccmelpnmjdclaaProg.lean LOADS. Nothing in Lean hashes anything: it is a label: what it is worth is what the hold of that sum in a sandbox is worth. -/
noncomputable def Try.pinned : Pinned := { name := "ytccmelpnmjdclaa", sum := "97739ac575a15ebedba8a590898ee1f52aaeb38c2954fc6db3a20f8d425c442b", checked := Try.checked }
namespace Rows
def none {H : Type} : Left H := { results := [], args := [] }

/-- 'greenscreenlaw04.ClockPlays': WHATEVER THE INPUT: true; the input reads as it did. -/
def clockPlaysSpec : ChangeSpec := { name := "clockPlays", fn := fun _ => fun
  | [d1, d2] => { results := [.lit (.bool true)], args := [d1, d2] }
  | _ => none }
def clockPlaysRow : OpenClaim := { program := "ytccmelpnmjdclaa", sum := "97739ac575a15ebedba8a590898ee1f52aaeb38c2954fc6db3a20f8d425c442b", func := "greenscreen/greenscreenlaw04.ClockPlays", spec := "clockPlays", inPlace := ["slices.overlaps[greenscreen/clock.alarm]"], unfollowed := true, recurses := true, apart := false }
def ClockPlaysSaid : Prop := clockPlaysRow.holds Try.pinned (OpenSpec.ofChange clockPlaysSpec)

/-- ITS FALSE NEIGHBOUR: 'it returns false'. Refute it at one input. -/
def clockPlaysWrong : ChangeSpec := { name := "clockPlays", fn := fun _ => fun
  | [d1, d2] => { results := [.lit (.bool false)], args := [d1, d2] }
  | _ => none }
def ClockPlaysWrongFalsely : Prop := clockPlaysRow.holds Try.pinned (OpenSpec.ofChange clockPlaysWrong)

/-- 'greenscreenlaw04.ClockParts': WHATEVER THE INPUT: true; the input reads as it did. -/
def clockPartsSpec : ChangeSpec := { name := "clockParts", fn := fun _ => fun
  | [d1, d2] => { results := [.lit (.bool true)], args := [d1, d2] }
  | _ => none }
def clockPartsRow : OpenClaim := { program := "ytccmelpnmjdclaa", sum := "97739ac575a15ebedba8a590898ee1f52aaeb38c2954fc6db3a20f8d425c442b", func := "greenscreen/greenscreenlaw04.ClockParts", spec := "clockParts", inPlace := ["slices.overlaps[greenscreen/clock.alarm]"], unfollowed := true, recurses := true, apart := false }
def ClockPartsSaid : Prop := clockPartsRow.holds Try.pinned (OpenSpec.ofChange clockPartsSpec)

/-- ITS FALSE NEIGHBOUR: 'it returns false'. Refute it at one input. -/
def clockPartsWrong : ChangeSpec := { name := "clockParts", fn := fun _ => fun
  | [d1, d2] => { results := [.lit (.bool false)], args := [d1, d2] }
  | _ => none }
def ClockPartsWrongFalsely : Prop := clockPartsRow.holds Try.pinned (OpenSpec.ofChange clockPartsWrong)

/-- 'greenscreenlaw04.ClockNexts': WHATEVER THE INPUT: true; the input reads as it did. -/
def clockNextsSpec : ChangeSpec := { name := "clockNexts", fn := fun _ => fun
  | [d] => { results := [.lit (.bool true)], args := [d] }
  | _ => none }
def clockNextsRow : OpenClaim := { program := "ytccmelpnmjdclaa", sum := "97739ac575a15ebedba8a590898ee1f52aaeb38c2954fc6db3a20f8d425c442b", func := "greenscreen/greenscreenlaw04.ClockNexts", spec := "clockNexts", inPlace := ["slices.overlaps[greenscreen/clock.alarm]"], unfollowed := true, recurses := true, apart := false }
def ClockNextsSaid : Prop := clockNextsRow.holds Try.pinned (OpenSpec.ofChange clockNextsSpec)

/-- ITS FALSE NEIGHBOUR: 'it returns false'. Refute it at one input. -/
def clockNextsWrong : ChangeSpec := { name := "clockNexts", fn := fun _ => fun
  | [d] => { results := [.lit (.bool false)], args := [d] }
  | _ => none }
def ClockNextsWrongFalsely : Prop := clockNextsRow.holds Try.pinned (OpenSpec.ofChange clockNextsWrong)

/-- 'greenscreenlaw04.ClockSets': WHATEVER THE INPUT: true; the input reads as it did. -/
def clockSetsSpec : ChangeSpec := { name := "clockSets", fn := fun _ => fun
  | [d1, d2, d3] => { results := [.lit (.bool true)], args := [d1, d2, d3] }
  | _ => none }
def clockSetsRow : OpenClaim := { program := "ytccmelpnmjdclaa", sum := "97739ac575a15ebedba8a590898ee1f52aaeb38c2954fc6db3a20f8d425c442b", func := "greenscreen/greenscreenlaw04.ClockSets", spec := "clockSets", inPlace := ["slices.overlaps[greenscreen/clock.alarm]"], unfollowed := true, recurses := true, apart := false }
def ClockSetsSaid : Prop := clockSetsRow.holds Try.pinned (OpenSpec.ofChange clockSetsSpec)

/-- ITS FALSE NEIGHBOUR: 'it returns false'. Refute it at one input. -/
def clockSetsWrong : ChangeSpec := { name := "clockSets", fn := fun _ => fun
  | [d1, d2, d3] => { results := [.lit (.bool false)], args := [d1, d2, d3] }
  | _ => none }
def ClockSetsWrongFalsely : Prop := clockSetsRow.holds Try.pinned (OpenSpec.ofChange clockSetsWrong)

/- THE SECOND FORM. 'bulk': how many values and letters a reading holds, each counted each time it is reached (what is shared counts as often as it is met; a slice's spare places count too). A statement '..UptoSaid' is the law's where the arguments, and the package variables that the reading takes, are together of bulk at most 1048576: NARROWER than '..Said'. Prove '..Said' where nothing that the law and all that it calls make is longer than what came in: it says more and counts as full. Else prove '..UptoSaid'. A law counts once. -/
mutual
def uptoBulk {H : Type} : DataW H → Nat
  | .lit (.string bytes) => bytes.length + 1
  | .lit _ => 1
  | .nil => 1
  | .ptr d => uptoBulk d + 1
  | .slice elems spare => uptoBulkAll elems + uptoBulkAll spare + 1
  | .agg parts => uptoBulkAll parts + 1
  | .iface _ d => uptoBulk d + 1
  | .map entries => uptoBulkEntries entries + 1
  | .held _ => 1
def uptoBulkAll {H : Type} : List (DataW H) → Nat
  | [] => 0
  | d :: r => uptoBulk d + uptoBulkAll r
def uptoBulkEntries {H : Type} : List (Lit × DataW H) → Nat
  | [] => 0
  | x :: r => uptoBulkEntry x + uptoBulkEntries r
def uptoBulkEntry {H : Type} : Lit × DataW H → Nat
  | (.string bytes, d) => bytes.length + uptoBulk d + 1
  | (_, d) => uptoBulk d + 1
 end
def uptoSmall : (H : Type) → List (DataW H) → Bool := fun _ ds => decide (uptoBulkAll ds ≤ 1048576)
def OpenSpec.upto (s : _root_.Go.ChangeSpec) : _root_.Go.OpenSpec := { _root_.Go.OpenSpec.ofChange s with cond := some uptoSmall }

/-- 'greenscreenlaw04.ClockPlays', WHERE WHAT IT READS IS OF BULK AT MOST 1048576: true; the input reads as it did. -/
def clockPlaysUptoRow : OpenClaim := { program := "ytccmelpnmjdclaa", sum := "97739ac575a15ebedba8a590898ee1f52aaeb38c2954fc6db3a20f8d425c442b", func := "greenscreen/greenscreenlaw04.ClockPlays", spec := "clockPlays", inPlace := ["slices.overlaps[greenscreen/clock.alarm]"], unfollowed := true, recurses := true, apart := false, narrowed := true }
def ClockPlaysUptoSaid : Prop := clockPlaysUptoRow.holds Try.pinned (OpenSpec.upto clockPlaysSpec)

/-- 'greenscreenlaw04.ClockParts', WHERE WHAT IT READS IS OF BULK AT MOST 1048576: true; the input reads as it did. -/
def clockPartsUptoRow : OpenClaim := { program := "ytccmelpnmjdclaa", sum := "97739ac575a15ebedba8a590898ee1f52aaeb38c2954fc6db3a20f8d425c442b", func := "greenscreen/greenscreenlaw04.ClockParts", spec := "clockParts", inPlace := ["slices.overlaps[greenscreen/clock.alarm]"], unfollowed := true, recurses := true, apart := false, narrowed := true }
def ClockPartsUptoSaid : Prop := clockPartsUptoRow.holds Try.pinned (OpenSpec.upto clockPartsSpec)

/-- 'greenscreenlaw04.ClockNexts', WHERE WHAT IT READS IS OF BULK AT MOST 1048576: true; the input reads as it did. -/
def clockNextsUptoRow : OpenClaim := { program := "ytccmelpnmjdclaa", sum := "97739ac575a15ebedba8a590898ee1f52aaeb38c2954fc6db3a20f8d425c442b", func := "greenscreen/greenscreenlaw04.ClockNexts", spec := "clockNexts", inPlace := ["slices.overlaps[greenscreen/clock.alarm]"], unfollowed := true, recurses := true, apart := false, narrowed := true }
def ClockNextsUptoSaid : Prop := clockNextsUptoRow.holds Try.pinned (OpenSpec.upto clockNextsSpec)

/-- 'greenscreenlaw04.ClockSets', WHERE WHAT IT READS IS OF BULK AT MOST 1048576: true; the input reads as it did. -/
def clockSetsUptoRow : OpenClaim := { program := "ytccmelpnmjdclaa", sum := "97739ac575a15ebedba8a590898ee1f52aaeb38c2954fc6db3a20f8d425c442b", func := "greenscreen/greenscreenlaw04.ClockSets", spec := "clockSets", inPlace := ["slices.overlaps[greenscreen/clock.alarm]"], unfollowed := true, recurses := true, apart := false, narrowed := true }
def ClockSetsUptoSaid : Prop := clockSetsUptoRow.holds Try.pinned (OpenSpec.upto clockSetsSpec)

end Rows
end Go.Proofs.Ytccmelpnmjdclaa
