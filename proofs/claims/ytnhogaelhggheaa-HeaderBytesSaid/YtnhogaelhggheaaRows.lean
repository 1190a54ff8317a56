/-
  No cell of these rows narrows 'for every input' (looked for: loops, veiled, ifaces, maps, wideKeys, modest, calm, conditions, laid).
  DERIVED. THE GIVEN ROWS OF THIS SEAT. 4 by the template 'for every input the law returns true; each argument reads behind the call as it read before'; 0 by the template 'total and deterministic' (their statements: YtnhogaelhggheaaTotals.lean).
  GIVEN WITH THE SEED: the statements are not yours to turn. If you find one false, say at which input.
  Laid BY PROGRAM, IN A SANDBOX (cutbox-rows.mjs): the forced cells as the released guide's own fill.sh prints them over the translation 93d94faaec69fd6f… (all of the seat's roots in one cut). By AI agents, Wed Nov 11 2026. No macro, syntax, notation, axiom, sorry.
-/
import Derived.Test.YtnhogaelhggheaaChecked
import GoSem.Claim
import GoSem.ClaimJoined
import GoSem.ClaimMapViews
import Derived.JoinedTies
import Derived.KernelRfl
namespace Go.Proofs.Ytnhogaelhggheaa
/- THE CELL 'sum', in the pinned program and in every row, IS THE sha256 OF THE DUMP (.gsa) THAT YtnhogaelhggheaaProg.lean LOADS. Nothing in Lean hashes anything: it is a label: what it is worth is what the hold of that sum in a sandbox is worth. -/
noncomputable def Try.pinned : Pinned := { name := "ytnhogaelhggheaa", sum := "93d94faaec69fd6feed311a6e963209ebc8b9585ba90245cf4791f6bd51312b0", checked := Try.checked }
namespace Rows
def none {H : Type} : Left H := { results := [], args := [] }

/-- 'greenscreenlaw09.HeaderBytes': WHATEVER THE INPUT: true; the input reads as it did. -/
def headerBytesSpec : ChangeSpec := { name := "headerBytes", fn := fun _ => fun
  | [d1, d2, d3, d4] => { results := [.lit (.bool true)], args := [d1, d2, d3, d4] }
  | _ => none }
def headerBytesRow : OpenClaim := { program := "ytnhogaelhggheaa", sum := "93d94faaec69fd6feed311a6e963209ebc8b9585ba90245cf4791f6bd51312b0", func := "greenscreen/greenscreenlaw09.HeaderBytes", spec := "headerBytes", apart := false }
def HeaderBytesSaid : Prop := headerBytesRow.holds Try.pinned (OpenSpec.ofChange headerBytesSpec)

/-- ITS FALSE NEIGHBOUR: 'it returns false'. Refute it at one input. -/
def headerBytesWrong : ChangeSpec := { name := "headerBytes", fn := fun _ => fun
  | [d1, d2, d3, d4] => { results := [.lit (.bool false)], args := [d1, d2, d3, d4] }
  | _ => none }
def HeaderBytesWrongFalsely : Prop := headerBytesRow.holds Try.pinned (OpenSpec.ofChange headerBytesWrong)

/-- 'greenscreenlaw09.HeaderBack': WHATEVER THE INPUT: true; the input reads as it did. -/
def headerBackSpec : ChangeSpec := { name := "headerBack", fn := fun _ => fun
  | [d1, d2, d3] => { results := [.lit (.bool true)], args := [d1, d2, d3] }
  | _ => none }
def headerBackRow : OpenClaim := { program := "ytnhogaelhggheaa", sum := "93d94faaec69fd6feed311a6e963209ebc8b9585ba90245cf4791f6bd51312b0", func := "greenscreen/greenscreenlaw09.HeaderBack", spec := "headerBack", apart := false }
def HeaderBackSaid : Prop := headerBackRow.holds Try.pinned (OpenSpec.ofChange headerBackSpec)

/-- ITS FALSE NEIGHBOUR: 'it returns false'. Refute it at one input. -/
def headerBackWrong : ChangeSpec := { name := "headerBack", fn := fun _ => fun
  | [d1, d2, d3] => { results := [.lit (.bool false)], args := [d1, d2, d3] }
  | _ => none }
def HeaderBackWrongFalsely : Prop := headerBackRow.holds Try.pinned (OpenSpec.ofChange headerBackWrong)

/-- 'greenscreenlaw09.HeaderCounts': WHATEVER THE INPUT: true; the input reads as it did. -/
def headerCountsSpec : ChangeSpec := { name := "headerCounts", fn := fun _ => fun
  | [d1, d2] => { results := [.lit (.bool true)], args := [d1, d2] }
  | _ => none }
def headerCountsRow : OpenClaim := { program := "ytnhogaelhggheaa", sum := "93d94faaec69fd6feed311a6e963209ebc8b9585ba90245cf4791f6bd51312b0", func := "greenscreen/greenscreenlaw09.HeaderCounts", spec := "headerCounts", apart := false }
def HeaderCountsSaid : Prop := headerCountsRow.holds Try.pinned (OpenSpec.ofChange headerCountsSpec)

/-- ITS FALSE NEIGHBOUR: 'it returns false'. Refute it at one input. -/
def headerCountsWrong : ChangeSpec := { name := "headerCounts", fn := fun _ => fun
  | [d1, d2] => { results := [.lit (.bool false)], args := [d1, d2] }
  | _ => none }
def HeaderCountsWrongFalsely : Prop := headerCountsRow.holds Try.pinned (OpenSpec.ofChange headerCountsWrong)

/-- 'greenscreenlaw09.HeaderRounds': WHATEVER THE INPUT: true; the input reads as it did. -/
def headerRoundsSpec : ChangeSpec := { name := "headerRounds", fn := fun _ => fun
  | [d] => { results := [.lit (.bool true)], args := [d] }
  | _ => none }
def headerRoundsRow : OpenClaim := { program := "ytnhogaelhggheaa", sum := "93d94faaec69fd6feed311a6e963209ebc8b9585ba90245cf4791f6bd51312b0", func := "greenscreen/greenscreenlaw09.HeaderRounds", spec := "headerRounds", apart := false }
def HeaderRoundsSaid : Prop := headerRoundsRow.holds Try.pinned (OpenSpec.ofChange headerRoundsSpec)

/-- ITS FALSE NEIGHBOUR: 'it returns false'. Refute it at one input. -/
def headerRoundsWrong : ChangeSpec := { name := "headerRounds", fn := fun _ => fun
  | [d] => { results := [.lit (.bool false)], args := [d] }
  | _ => none }
def HeaderRoundsWrongFalsely : Prop := headerRoundsRow.holds Try.pinned (OpenSpec.ofChange headerRoundsWrong)

/- THE SECOND FORM. 'bulk': how many values and letters a reading holds, each counted each time it is reached (what is shared counts as often as it is met; a slice's spare places count too). A statement '..UptoSaid' is the law's where the arguments, and the package variables that the reading takes, are together of bulk at most 1048576: NARROWER than '..Said'. Prove '..Said' where nothing that the law and all that it calls make is longer than what came in: it says more and counts as full. Else prove '..UptoSaid'. A law counts once. -/
mutual
def uptoBulk {H : Type} : DataW H → Nat
  | .lit (.string bytes) => bytes.length + 1
  | .lit _ => 1
  | .nil => 1
  | .ptr d => uptoBulk d + 1
  | .slice elems spare => uptoBulkAll elems + uptoBulkAll spare + 1
  | .agg parts => uptoBulkAll parts + 1
  | .iface _ d => uptoBulk d + 1
  | .map entries => uptoBulkEntries entries + 1
  | .held _ => 1
def uptoBulkAll {H : Type} : List (DataW H) → Nat
  | [] => 0
  | d :: r => uptoBulk d + uptoBulkAll r
def uptoBulkEntries {H : Type} : List (Lit × DataW H) → Nat
  | [] => 0
  | x :: r => uptoBulkEntry x + uptoBulkEntries r
def uptoBulkEntry {H : Type} : Lit × DataW H → Nat
  | (.string bytes, d) => bytes.length + uptoBulk d + 1
  | (_, d) => uptoBulk d + 1
 end
def uptoSmall : (H : Type) → List (DataW H) → Bool := fun _ ds => decide (uptoBulkAll ds ≤ 1048576)
def OpenSpec.upto (s : _root_.Go.ChangeSpec) : _root_.Go.OpenSpec := { _root_.Go.OpenSpec.ofChange s with cond := some uptoSmall }

/-- 'greenscreenlaw09.HeaderBytes', WHERE WHAT IT READS IS OF BULK AT MOST 1048576: true; the input reads as it did. -/
def headerBytesUptoRow : OpenClaim := { program := "ytnhogaelhggheaa", sum := "93d94faaec69fd6feed311a6e963209ebc8b9585ba90245cf4791f6bd51312b0", func := "greenscreen/greenscreenlaw09.HeaderBytes", spec := "headerBytes", apart := false, narrowed := true }
def HeaderBytesUptoSaid : Prop := headerBytesUptoRow.holds Try.pinned (OpenSpec.upto headerBytesSpec)

/-- 'greenscreenlaw09.HeaderBack', WHERE WHAT IT READS IS OF BULK AT MOST 1048576: true; the input reads as it did. -/
def headerBackUptoRow : OpenClaim := { program := "ytnhogaelhggheaa", sum := "93d94faaec69fd6feed311a6e963209ebc8b9585ba90245cf4791f6bd51312b0", func := "greenscreen/greenscreenlaw09.HeaderBack", spec := "headerBack", apart := false, narrowed := true }
def HeaderBackUptoSaid : Prop := headerBackUptoRow.holds Try.pinned (OpenSpec.upto headerBackSpec)

/-- 'greenscreenlaw09.HeaderCounts', WHERE WHAT IT READS IS OF BULK AT MOST 1048576: true; the input reads as it did. -/
def headerCountsUptoRow : OpenClaim := { program := "ytnhogaelhggheaa", sum := "93d94faaec69fd6feed311a6e963209ebc8b9585ba90245cf4791f6bd51312b0", func := "greenscreen/greenscreenlaw09.HeaderCounts", spec := "headerCounts", apart := false, narrowed := true }
def HeaderCountsUptoSaid : Prop := headerCountsUptoRow.holds Try.pinned (OpenSpec.upto headerCountsSpec)

/-- 'greenscreenlaw09.HeaderRounds', WHERE WHAT IT READS IS OF BULK AT MOST 1048576: true; the input reads as it did. -/
def headerRoundsUptoRow : OpenClaim := { program := "ytnhogaelhggheaa", sum := "93d94faaec69fd6feed311a6e963209ebc8b9585ba90245cf4791f6bd51312b0", func := "greenscreen/greenscreenlaw09.HeaderRounds", spec := "headerRounds", apart := false, narrowed := true }
def HeaderRoundsUptoSaid : Prop := headerRoundsUptoRow.holds Try.pinned (OpenSpec.upto headerRoundsSpec)

end Rows
end Go.Proofs.Ytnhogaelhggheaa
