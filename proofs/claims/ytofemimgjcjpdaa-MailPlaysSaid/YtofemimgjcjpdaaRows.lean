/-
  No cell of these rows narrows 'for every input' (looked for: loops, veiled, ifaces, maps, wideKeys, modest, calm, conditions, laid).
  DERIVED. THE GIVEN ROWS OF THIS SEAT. 4 by the template 'for every input the law returns true; each argument reads behind the call as it read before'; 0 by the template 'total and deterministic' (their statements: YtofemimgjcjpdaaTotals.lean).
  GIVEN WITH THE SEED: the statements are not yours to turn. If you find one false, say at which input.
  Laid BY PROGRAM, IN A SANDBOX (cutbox-rows.mjs): the forced cells as the released guide's own fill.sh prints them over the translation 995c5573ed08d9e4… (all of the seat's roots in one cut). By AI agents, Wed Nov 11 2026. No macro, syntax, notation, axiom, sorry.
-/
import Derived.Test.YtofemimgjcjpdaaChecked
import GoSem.Claim
import GoSem.ClaimJoined
import GoSem.ClaimMapViews
import Derived.JoinedTies
import Derived.KernelRfl
namespace Go.Proofs.Ytofemimgjcjpdaa
/- THE CELL 'sum', in the pinned program and in every row, IS THE sha256 OF THE DUMP (.gsa) THAT YtofemimgjcjpdaaProg.lean LOADS. Nothing in Lean hashes anything: it is a label: what it is worth is what the hold of that sum in a sandbox is worth. -/
noncomputable def Try.pinned : Pinned := { name := "ytofemimgjcjpdaa", sum := "995c5573ed08d9e4623a0e47d2e74bc1a379270f620724ed50506efa34b89c72", checked := Try.checked }
namespace Rows
def none {H : Type} : Left H := { results := [], args := [] }

/-- 'greenscreenlaw03.MailPlays': WHATEVER THE INPUT: true; the input reads as it did. -/
def mailPlaysSpec : ChangeSpec := { name := "mailPlays", fn := fun _ => fun
  | [d1, d2, d3] => { results := [.lit (.bool true)], args := [d1, d2, d3] }
  | _ => none }
def mailPlaysRow : OpenClaim := { program := "ytofemimgjcjpdaa", sum := "995c5573ed08d9e4623a0e47d2e74bc1a379270f620724ed50506efa34b89c72", func := "greenscreen/greenscreenlaw03.MailPlays", spec := "mailPlays", unfollowed := true, recurses := true, apart := false }
def MailPlaysSaid : Prop := mailPlaysRow.holds Try.pinned (OpenSpec.ofChange mailPlaysSpec)

/-- ITS FALSE NEIGHBOUR: 'it returns false'. Refute it at one input. -/
def mailPlaysWrong : ChangeSpec := { name := "mailPlays", fn := fun _ => fun
  | [d1, d2, d3] => { results := [.lit (.bool false)], args := [d1, d2, d3] }
  | _ => none }
def MailPlaysWrongFalsely : Prop := mailPlaysRow.holds Try.pinned (OpenSpec.ofChange mailPlaysWrong)

/-- 'greenscreenlaw03.MailOrders': WHATEVER THE INPUT: true; the input reads as it did. -/
def mailOrdersSpec : ChangeSpec := { name := "mailOrders", fn := fun _ => fun
  | [d1, d2] => { results := [.lit (.bool true)], args := [d1, d2] }
  | _ => none }
def mailOrdersRow : OpenClaim := { program := "ytofemimgjcjpdaa", sum := "995c5573ed08d9e4623a0e47d2e74bc1a379270f620724ed50506efa34b89c72", func := "greenscreen/greenscreenlaw03.MailOrders", spec := "mailOrders", unfollowed := true, recurses := true, apart := false }
def MailOrdersSaid : Prop := mailOrdersRow.holds Try.pinned (OpenSpec.ofChange mailOrdersSpec)

/-- ITS FALSE NEIGHBOUR: 'it returns false'. Refute it at one input. -/
def mailOrdersWrong : ChangeSpec := { name := "mailOrders", fn := fun _ => fun
  | [d1, d2] => { results := [.lit (.bool false)], args := [d1, d2] }
  | _ => none }
def MailOrdersWrongFalsely : Prop := mailOrdersRow.holds Try.pinned (OpenSpec.ofChange mailOrdersWrong)

/-- 'greenscreenlaw03.MailPours': WHATEVER THE INPUT: true; the input reads as it did. -/
def mailPoursSpec : ChangeSpec := { name := "mailPours", fn := fun _ => fun
  | [d1, d2, d3, d4] => { results := [.lit (.bool true)], args := [d1, d2, d3, d4] }
  | _ => none }
def mailPoursRow : OpenClaim := { program := "ytofemimgjcjpdaa", sum := "995c5573ed08d9e4623a0e47d2e74bc1a379270f620724ed50506efa34b89c72", func := "greenscreen/greenscreenlaw03.MailPours", spec := "mailPours", unfollowed := true, recurses := true, apart := false }
def MailPoursSaid : Prop := mailPoursRow.holds Try.pinned (OpenSpec.ofChange mailPoursSpec)

/-- ITS FALSE NEIGHBOUR: 'it returns false'. Refute it at one input. -/
def mailPoursWrong : ChangeSpec := { name := "mailPours", fn := fun _ => fun
  | [d1, d2, d3, d4] => { results := [.lit (.bool false)], args := [d1, d2, d3, d4] }
  | _ => none }
def MailPoursWrongFalsely : Prop := mailPoursRow.holds Try.pinned (OpenSpec.ofChange mailPoursWrong)

/-- 'greenscreenlaw03.MailFirsts': WHATEVER THE INPUT: true; the input reads as it did. -/
def mailFirstsSpec : ChangeSpec := { name := "mailFirsts", fn := fun _ => fun
  | [d] => { results := [.lit (.bool true)], args := [d] }
  | _ => none }
def mailFirstsRow : OpenClaim := { program := "ytofemimgjcjpdaa", sum := "995c5573ed08d9e4623a0e47d2e74bc1a379270f620724ed50506efa34b89c72", func := "greenscreen/greenscreenlaw03.MailFirsts", spec := "mailFirsts", unfollowed := true, recurses := true, apart := false }
def MailFirstsSaid : Prop := mailFirstsRow.holds Try.pinned (OpenSpec.ofChange mailFirstsSpec)

/-- ITS FALSE NEIGHBOUR: 'it returns false'. Refute it at one input. -/
def mailFirstsWrong : ChangeSpec := { name := "mailFirsts", fn := fun _ => fun
  | [d] => { results := [.lit (.bool false)], args := [d] }
  | _ => none }
def MailFirstsWrongFalsely : Prop := mailFirstsRow.holds Try.pinned (OpenSpec.ofChange mailFirstsWrong)

/- THE SECOND FORM. 'bulk': how many values and letters a reading holds, each counted each time it is reached (what is shared counts as often as it is met; a slice's spare places count too). A statement '..UptoSaid' is the law's where the arguments, and the package variables that the reading takes, are together of bulk at most 1048576: NARROWER than '..Said'. Prove '..Said' where nothing that the law and all that it calls make is longer than what came in: it says more and counts as full. Else prove '..UptoSaid'. A law counts once. -/
mutual
def uptoBulk {H : Type} : DataW H → Nat
  | .lit (.string bytes) => bytes.length + 1
  | .lit _ => 1
  | .nil => 1
  | .ptr d => uptoBulk d + 1
  | .slice elems spare => uptoBulkAll elems + uptoBulkAll spare + 1
  | .agg parts => uptoBulkAll parts + 1
  | .iface _ d => uptoBulk d + 1
  | .map entries => uptoBulkEntries entries + 1
  | .held _ => 1
def uptoBulkAll {H : Type} : List (DataW H) → Nat
  | [] => 0
  | d :: r => uptoBulk d + uptoBulkAll r
def uptoBulkEntries {H : Type} : List (Lit × DataW H) → Nat
  | [] => 0
  | x :: r => uptoBulkEntry x + uptoBulkEntries r
def uptoBulkEntry {H : Type} : Lit × DataW H → Nat
  | (.string bytes, d) => bytes.length + uptoBulk d + 1
  | (_, d) => uptoBulk d + 1
 end
def uptoSmall : (H : Type) → List (DataW H) → Bool := fun _ ds => decide (uptoBulkAll ds ≤ 1048576)
def OpenSpec.upto (s : _root_.Go.ChangeSpec) : _root_.Go.OpenSpec := { _root_.Go.OpenSpec.ofChange s with cond := some uptoSmall }

/-- 'greenscreenlaw03.MailPlays', WHERE WHAT IT READS IS OF BULK AT MOST 1048576: true; the input reads as it did. -/
def mailPlaysUptoRow : OpenClaim := { program := "ytofemimgjcjpdaa", sum := "995c5573ed08d9e4623a0e47d2e74bc1a379270f620724ed50506efa34b89c72", func := "greenscreen/greenscreenlaw03.MailPlays", spec := "mailPlays", unfollowed := true, recurses := true, apart := false, narrowed := true }
def MailPlaysUptoSaid : Prop := mailPlaysUptoRow.holds Try.pinned (OpenSpec.upto mailPlaysSpec)

/-- 'greenscreenlaw03.MailOrders', WHERE WHAT IT READS IS OF BULK AT MOST 1048576: true; the input reads as it did. -/
def mailOrdersUptoRow : OpenClaim := { program := "ytofemimgjcjpdaa", sum := "995c5573ed08d9e4623a0e47d2e74bc1a379270f620724ed50506efa34b89c72", func := "greenscreen/greenscreenlaw03.MailOrders", spec := "mailOrders", unfollowed := true, recurses := true, apart := false, narrowed := true }
def MailOrdersUptoSaid : Prop := mailOrdersUptoRow.holds Try.pinned (OpenSpec.upto mailOrdersSpec)

/-- 'greenscreenlaw03.MailPours', WHERE WHAT IT READS IS OF BULK AT MOST 1048576: true; the input reads as it did. -/
def mailPoursUptoRow : OpenClaim := { program := "ytofemimgjcjpdaa", sum := "995c5573ed08d9e4623a0e47d2e74bc1a379270f620724ed50506efa34b89c72", func := "greenscreen/greenscreenlaw03.MailPours", spec := "mailPours", unfollowed := true, recurses := true, apart := false, narrowed := true }
def MailPoursUptoSaid : Prop := mailPoursUptoRow.holds Try.pinned (OpenSpec.upto mailPoursSpec)

/-- 'greenscreenlaw03.MailFirsts', WHERE WHAT IT READS IS OF BULK AT MOST 1048576: true; the input reads as it did. -/
def mailFirstsUptoRow : OpenClaim := { program := "ytofemimgjcjpdaa", sum := "995c5573ed08d9e4623a0e47d2e74bc1a379270f620724ed50506efa34b89c72", func := "greenscreen/greenscreenlaw03.MailFirsts", spec := "mailFirsts", unfollowed := true, recurses := true, apart := false, narrowed := true }
def MailFirstsUptoSaid : Prop := mailFirstsUptoRow.holds Try.pinned (OpenSpec.upto mailFirstsSpec)

end Rows
end Go.Proofs.Ytofemimgjcjpdaa
