/-
  No cell of these rows narrows 'for every input' (looked for: loops, veiled, ifaces, maps, wideKeys, modest, calm, conditions, laid).
  DERIVED. THE GIVEN ROWS OF THIS SEAT. 4 by the template 'for every input the law returns true; each argument reads behind the call as it read before'; 0 by the template 'total and deterministic' (their statements: YthimdjdnpfaamaaTotals.lean).
  GIVEN WITH THE SEED: the statements are not yours to turn. If you find one false, say at which input.
  Laid BY PROGRAM, IN A SANDBOX (cutbox-rows.mjs): the forced cells as the released guide's own fill.sh prints them over the translation f5d4a9d183076c4f… (all of the seat's roots in one cut). By AI agents, Wed Nov 11 2026. No macro, syntax, notation, axiom, sorry.
-/
import Derived.Test.YthimdjdnpfaamaaChecked
import GoSem.Claim
import GoSem.ClaimJoined
import GoSem.ClaimMapViews
import Derived.JoinedTies
import Derived.KernelRfl
namespace Go.Proofs.Ythimdjdnpfaamaa
/- THE CELL 'sum', in the pinned program and in every row, IS THE sha256 OF THE DUMP (.gsa) THAT YthimdjdnpfaamaaProg.lean LOADS. Nothing in Lean hashes anything: it is a label: what it is worth is what the hold of that sum in a sandbox is worth. -/
noncomputable def Try.pinned : Pinned := { name := "ythimdjdnpfaamaa", sum := "f5d4a9d183076c4fff98e0881e29f8fe870ff0cf1971bb414aeb6b89cfb08730", checked := Try.checked }
namespace Rows
def none {H : Type} : Left H := { results := [], args := [] }

/-- 'greenscreenlaw11.AttrBytes': WHATEVER THE INPUT: true; the input reads as it did. -/
def attrBytesSpec : ChangeSpec := { name := "attrBytes", fn := fun _ => fun
  | [d1, d2, d3] => { results := [.lit (.bool true)], args := [d1, d2, d3] }
  | _ => none }
def attrBytesRow : OpenClaim := { program := "ythimdjdnpfaamaa", sum := "f5d4a9d183076c4fff98e0881e29f8fe870ff0cf1971bb414aeb6b89cfb08730", func := "greenscreen/greenscreenlaw11.AttrBytes", spec := "attrBytes", apart := false }
def AttrBytesSaid : Prop := attrBytesRow.holds Try.pinned (OpenSpec.ofChange attrBytesSpec)

/-- ITS FALSE NEIGHBOUR: 'it returns false'. Refute it at one input. -/
def attrBytesWrong : ChangeSpec := { name := "attrBytes", fn := fun _ => fun
  | [d1, d2, d3] => { results := [.lit (.bool false)], args := [d1, d2, d3] }
  | _ => none }
def AttrBytesWrongFalsely : Prop := attrBytesRow.holds Try.pinned (OpenSpec.ofChange attrBytesWrong)

/-- 'greenscreenlaw11.AttrPairs': WHATEVER THE INPUT: true; the input reads as it did. -/
def attrPairsSpec : ChangeSpec := { name := "attrPairs", fn := fun _ => fun
  | [d1, d2, d3] => { results := [.lit (.bool true)], args := [d1, d2, d3] }
  | _ => none }
def attrPairsRow : OpenClaim := { program := "ythimdjdnpfaamaa", sum := "f5d4a9d183076c4fff98e0881e29f8fe870ff0cf1971bb414aeb6b89cfb08730", func := "greenscreen/greenscreenlaw11.AttrPairs", spec := "attrPairs", apart := false }
def AttrPairsSaid : Prop := attrPairsRow.holds Try.pinned (OpenSpec.ofChange attrPairsSpec)

/-- ITS FALSE NEIGHBOUR: 'it returns false'. Refute it at one input. -/
def attrPairsWrong : ChangeSpec := { name := "attrPairs", fn := fun _ => fun
  | [d1, d2, d3] => { results := [.lit (.bool false)], args := [d1, d2, d3] }
  | _ => none }
def AttrPairsWrongFalsely : Prop := attrPairsRow.holds Try.pinned (OpenSpec.ofChange attrPairsWrong)

/-- 'greenscreenlaw11.AttrTurns': WHATEVER THE INPUT: true; the input reads as it did. -/
def attrTurnsSpec : ChangeSpec := { name := "attrTurns", fn := fun _ => fun
  | [d1, d2, d3, d4] => { results := [.lit (.bool true)], args := [d1, d2, d3, d4] }
  | _ => none }
def attrTurnsRow : OpenClaim := { program := "ythimdjdnpfaamaa", sum := "f5d4a9d183076c4fff98e0881e29f8fe870ff0cf1971bb414aeb6b89cfb08730", func := "greenscreen/greenscreenlaw11.AttrTurns", spec := "attrTurns", apart := false }
def AttrTurnsSaid : Prop := attrTurnsRow.holds Try.pinned (OpenSpec.ofChange attrTurnsSpec)

/-- ITS FALSE NEIGHBOUR: 'it returns false'. Refute it at one input. -/
def attrTurnsWrong : ChangeSpec := { name := "attrTurns", fn := fun _ => fun
  | [d1, d2, d3, d4] => { results := [.lit (.bool false)], args := [d1, d2, d3, d4] }
  | _ => none }
def AttrTurnsWrongFalsely : Prop := attrTurnsRow.holds Try.pinned (OpenSpec.ofChange attrTurnsWrong)

/-- 'greenscreenlaw11.AttrTexts': WHATEVER THE INPUT: true; the input reads as it did. -/
def attrTextsSpec : ChangeSpec := { name := "attrTexts", fn := fun _ => fun
  | [d1, d2, d3, d4] => { results := [.lit (.bool true)], args := [d1, d2, d3, d4] }
  | _ => none }
def attrTextsRow : OpenClaim := { program := "ythimdjdnpfaamaa", sum := "f5d4a9d183076c4fff98e0881e29f8fe870ff0cf1971bb414aeb6b89cfb08730", func := "greenscreen/greenscreenlaw11.AttrTexts", spec := "attrTexts", apart := false }
def AttrTextsSaid : Prop := attrTextsRow.holds Try.pinned (OpenSpec.ofChange attrTextsSpec)

/-- ITS FALSE NEIGHBOUR: 'it returns false'. Refute it at one input. -/
def attrTextsWrong : ChangeSpec := { name := "attrTexts", fn := fun _ => fun
  | [d1, d2, d3, d4] => { results := [.lit (.bool false)], args := [d1, d2, d3, d4] }
  | _ => none }
def AttrTextsWrongFalsely : Prop := attrTextsRow.holds Try.pinned (OpenSpec.ofChange attrTextsWrong)

/- THE SECOND FORM. 'bulk': how many values and letters a reading holds, each counted each time it is reached (what is shared counts as often as it is met; a slice's spare places count too). A statement '..UptoSaid' is the law's where the arguments, and the package variables that the reading takes, are together of bulk at most 1048576: NARROWER than '..Said'. Prove '..Said' where nothing that the law and all that it calls make is longer than what came in: it says more and counts as full. Else prove '..UptoSaid'. A law counts once. -/
mutual
def uptoBulk {H : Type} : DataW H → Nat
  | .lit (.string bytes) => bytes.length + 1
  | .lit _ => 1
  | .nil => 1
  | .ptr d => uptoBulk d + 1
  | .slice elems spare => uptoBulkAll elems + uptoBulkAll spare + 1
  | .agg parts => uptoBulkAll parts + 1
  | .iface _ d => uptoBulk d + 1
  | .map entries => uptoBulkEntries entries + 1
  | .held _ => 1
def uptoBulkAll {H : Type} : List (DataW H) → Nat
  | [] => 0
  | d :: r => uptoBulk d + uptoBulkAll r
def uptoBulkEntries {H : Type} : List (Lit × DataW H) → Nat
  | [] => 0
  | x :: r => uptoBulkEntry x + uptoBulkEntries r
def uptoBulkEntry {H : Type} : Lit × DataW H → Nat
  | (.string bytes, d) => bytes.length + uptoBulk d + 1
  | (_, d) => uptoBulk d + 1
 end
def uptoSmall : (H : Type) → List (DataW H) → Bool := fun _ ds => decide (uptoBulkAll ds ≤ 1048576)
def OpenSpec.upto (s : _root_.Go.ChangeSpec) : _root_.Go.OpenSpec := { _root_.Go.OpenSpec.ofChange s with cond := some uptoSmall }

/-- 'greenscreenlaw11.AttrBytes', WHERE WHAT IT READS IS OF BULK AT MOST 1048576: true; the input reads as it did. -/
def attrBytesUptoRow : OpenClaim := { program := "ythimdjdnpfaamaa", sum := "f5d4a9d183076c4fff98e0881e29f8fe870ff0cf1971bb414aeb6b89cfb08730", func := "greenscreen/greenscreenlaw11.AttrBytes", spec := "attrBytes", apart := false, narrowed := true }
def AttrBytesUptoSaid : Prop := attrBytesUptoRow.holds Try.pinned (OpenSpec.upto attrBytesSpec)

/-- 'greenscreenlaw11.AttrPairs', WHERE WHAT IT READS IS OF BULK AT MOST 1048576: true; the input reads as it did. -/
def attrPairsUptoRow : OpenClaim := { program := "ythimdjdnpfaamaa", sum := "f5d4a9d183076c4fff98e0881e29f8fe870ff0cf1971bb414aeb6b89cfb08730", func := "greenscreen/greenscreenlaw11.AttrPairs", spec := "attrPairs", apart := false, narrowed := true }
def AttrPairsUptoSaid : Prop := attrPairsUptoRow.holds Try.pinned (OpenSpec.upto attrPairsSpec)

/-- 'greenscreenlaw11.AttrTurns', WHERE WHAT IT READS IS OF BULK AT MOST 1048576: true; the input reads as it did. -/
def attrTurnsUptoRow : OpenClaim := { program := "ythimdjdnpfaamaa", sum := "f5d4a9d183076c4fff98e0881e29f8fe870ff0cf1971bb414aeb6b89cfb08730", func := "greenscreen/greenscreenlaw11.AttrTurns", spec := "attrTurns", apart := false, narrowed := true }
def AttrTurnsUptoSaid : Prop := attrTurnsUptoRow.holds Try.pinned (OpenSpec.upto attrTurnsSpec)

/-- 'greenscreenlaw11.AttrTexts', WHERE WHAT IT READS IS OF BULK AT MOST 1048576: true; the input reads as it did. -/
def attrTextsUptoRow : OpenClaim := { program := "ythimdjdnpfaamaa", sum := "f5d4a9d183076c4fff98e0881e29f8fe870ff0cf1971bb414aeb6b89cfb08730", func := "greenscreen/greenscreenlaw11.AttrTexts", spec := "attrTexts", apart := false, narrowed := true }
def AttrTextsUptoSaid : Prop := attrTextsUptoRow.holds Try.pinned (OpenSpec.upto attrTextsSpec)

end Rows
end Go.Proofs.Ythimdjdnpfaamaa
