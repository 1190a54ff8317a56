/-
  No cell of these rows narrows 'for every input' (looked for: loops, veiled, ifaces, maps, wideKeys, modest, calm, conditions, laid).
  DERIVED. THE GIVEN ROWS OF THIS SEAT. 3 by the template 'for every input the law returns true; each argument reads behind the call as it read before'; 0 by the template 'total and deterministic' (their statements: YtbgpmdoeghajcaaTotals.lean).
  GIVEN WITH THE SEED: the statements are not yours to turn. If you find one false, say at which input.
  Laid BY PROGRAM, IN A SANDBOX (cutbox-rows.mjs): the forced cells as the released guide's own fill.sh prints them over the translation 29f788e1f2af7463… (all of the seat's roots in one cut). By AI agents, Wed Nov 11 2026. No macro, syntax, notation, axiom, sorry.
-/
import Derived.Test.YtbgpmdoeghajcaaChecked
import GoSem.Claim
import GoSem.ClaimJoined
import GoSem.ClaimMapViews
import Derived.JoinedTies
import Derived.KernelRfl
namespace Go.Proofs.Ytbgpmdoeghajcaa
/- THE CELL 'sum', in the pinned program and in every row, IS THE sha256 OF THE DUMP (.gsa) THAT YtbgpmdoeghajcaaProg.lean LOADS. Nothing in Lean hashes anything: it is a label: what it is worth is what the hold of that sum in a sandbox is worth. -/
noncomputable def Try.pinned : Pinned := { name := "ytbgpmdoeghajcaa", sum := "29f788e1f2af74638029eb3bdd7bf4b0789437c8ae657f4d791f37038039c82e", checked := Try.checked }
namespace Rows
def none {H : Type} : Left H := { results := [], args := [] }

/-- 'greenscreenlaw21.LockPlays': WHATEVER THE INPUT: true; the input reads as it did. -/
def lockPlaysSpec : ChangeSpec := { name := "lockPlays", fn := fun _ => fun
  | [d] => { results := [.lit (.bool true)], args := [d] }
  | _ => none }
def lockPlaysRow : OpenClaim := { program := "ytbgpmdoeghajcaa", sum := "29f788e1f2af74638029eb3bdd7bf4b0789437c8ae657f4d791f37038039c82e", func := "greenscreen/greenscreenlaw21.LockPlays", spec := "lockPlays", apart := false }
def LockPlaysSaid : Prop := lockPlaysRow.holds Try.pinned (OpenSpec.ofChange lockPlaysSpec)

/-- ITS FALSE NEIGHBOUR: 'it returns false'. Refute it at one input. -/
def lockPlaysWrong : ChangeSpec := { name := "lockPlays", fn := fun _ => fun
  | [d] => { results := [.lit (.bool false)], args := [d] }
  | _ => none }
def LockPlaysWrongFalsely : Prop := lockPlaysRow.holds Try.pinned (OpenSpec.ofChange lockPlaysWrong)

/-- 'greenscreenlaw21.LockSends': WHATEVER THE INPUT: true; the input reads as it did. -/
def lockSendsSpec : ChangeSpec := { name := "lockSends", fn := fun _ => fun
  | [d] => { results := [.lit (.bool true)], args := [d] }
  | _ => none }
def lockSendsRow : OpenClaim := { program := "ytbgpmdoeghajcaa", sum := "29f788e1f2af74638029eb3bdd7bf4b0789437c8ae657f4d791f37038039c82e", func := "greenscreen/greenscreenlaw21.LockSends", spec := "lockSends", apart := false }
def LockSendsSaid : Prop := lockSendsRow.holds Try.pinned (OpenSpec.ofChange lockSendsSpec)

/-- ITS FALSE NEIGHBOUR: 'it returns false'. Refute it at one input. -/
def lockSendsWrong : ChangeSpec := { name := "lockSends", fn := fun _ => fun
  | [d] => { results := [.lit (.bool false)], args := [d] }
  | _ => none }
def LockSendsWrongFalsely : Prop := lockSendsRow.holds Try.pinned (OpenSpec.ofChange lockSendsWrong)

/-- 'greenscreenlaw21.LockTexts': WHATEVER THE INPUT: true; the input reads as it did. -/
def lockTextsSpec : ChangeSpec := { name := "lockTexts", fn := fun _ => fun
  | [d1, d2] => { results := [.lit (.bool true)], args := [d1, d2] }
  | _ => none }
def lockTextsRow : OpenClaim := { program := "ytbgpmdoeghajcaa", sum := "29f788e1f2af74638029eb3bdd7bf4b0789437c8ae657f4d791f37038039c82e", func := "greenscreen/greenscreenlaw21.LockTexts", spec := "lockTexts", apart := false }
def LockTextsSaid : Prop := lockTextsRow.holds Try.pinned (OpenSpec.ofChange lockTextsSpec)

/-- ITS FALSE NEIGHBOUR: 'it returns false'. Refute it at one input. -/
def lockTextsWrong : ChangeSpec := { name := "lockTexts", fn := fun _ => fun
  | [d1, d2] => { results := [.lit (.bool false)], args := [d1, d2] }
  | _ => none }
def LockTextsWrongFalsely : Prop := lockTextsRow.holds Try.pinned (OpenSpec.ofChange lockTextsWrong)

/- THE SECOND FORM. 'bulk': how many values and letters a reading holds, each counted each time it is reached (what is shared counts as often as it is met; a slice's spare places count too). A statement '..UptoSaid' is the law's where the arguments, and the package variables that the reading takes, are together of bulk at most 1048576: NARROWER than '..Said'. Prove '..Said' where nothing that the law and all that it calls make is longer than what came in: it says more and counts as full. Else prove '..UptoSaid'. A law counts once. -/
mutual
def uptoBulk {H : Type} : DataW H → Nat
  | .lit (.string bytes) => bytes.length + 1
  | .lit _ => 1
  | .nil => 1
  | .ptr d => uptoBulk d + 1
  | .slice elems spare => uptoBulkAll elems + uptoBulkAll spare + 1
  | .agg parts => uptoBulkAll parts + 1
  | .iface _ d => uptoBulk d + 1
  | .map entries => uptoBulkEntries entries + 1
  | .held _ => 1
def uptoBulkAll {H : Type} : List (DataW H) → Nat
  | [] => 0
  | d :: r => uptoBulk d + uptoBulkAll r
def uptoBulkEntries {H : Type} : List (Lit × DataW H) → Nat
  | [] => 0
  | x :: r => uptoBulkEntry x + uptoBulkEntries r
def uptoBulkEntry {H : Type} : Lit × DataW H → Nat
  | (.string bytes, d) => bytes.length + uptoBulk d + 1
  | (_, d) => uptoBulk d + 1
 end
def uptoSmall : (H : Type) → List (DataW H) → Bool := fun _ ds => decide (uptoBulkAll ds ≤ 1048576)
def OpenSpec.upto (s : _root_.Go.ChangeSpec) : _root_.Go.OpenSpec := { _root_.Go.OpenSpec.ofChange s with cond := some uptoSmall }

/-- 'greenscreenlaw21.LockPlays', WHERE WHAT IT READS IS OF BULK AT MOST 1048576: true; the input reads as it did. -/
def lockPlaysUptoRow : OpenClaim := { program := "ytbgpmdoeghajcaa", sum := "29f788e1f2af74638029eb3bdd7bf4b0789437c8ae657f4d791f37038039c82e", func := "greenscreen/greenscreenlaw21.LockPlays", spec := "lockPlays", apart := false, narrowed := true }
def LockPlaysUptoSaid : Prop := lockPlaysUptoRow.holds Try.pinned (OpenSpec.upto lockPlaysSpec)

/-- 'greenscreenlaw21.LockSends', WHERE WHAT IT READS IS OF BULK AT MOST 1048576: true; the input reads as it did. -/
def lockSendsUptoRow : OpenClaim := { program := "ytbgpmdoeghajcaa", sum := "29f788e1f2af74638029eb3bdd7bf4b0789437c8ae657f4d791f37038039c82e", func := "greenscreen/greenscreenlaw21.LockSends", spec := "lockSends", apart := false, narrowed := true }
def LockSendsUptoSaid : Prop := lockSendsUptoRow.holds Try.pinned (OpenSpec.upto lockSendsSpec)

/-- 'greenscreenlaw21.LockTexts', WHERE WHAT IT READS IS OF BULK AT MOST 1048576: true; the input reads as it did. -/
def lockTextsUptoRow : OpenClaim := { program := "ytbgpmdoeghajcaa", sum := "29f788e1f2af74638029eb3bdd7bf4b0789437c8ae657f4d791f37038039c82e", func := "greenscreen/greenscreenlaw21.LockTexts", spec := "lockTexts", apart := false, narrowed := true }
def LockTextsUptoSaid : Prop := lockTextsUptoRow.holds Try.pinned (OpenSpec.upto lockTextsSpec)

end Rows
end Go.Proofs.Ytbgpmdoeghajcaa
