/-
  No cell of these rows narrows 'for every input' (looked for: loops, veiled, ifaces, maps, wideKeys, modest, calm, conditions, laid).
  DERIVED. THE GIVEN ROWS OF THIS SEAT. 4 by the template 'for every input the law returns true; each argument reads behind the call as it read before'; 0 by the template 'total and deterministic' (their statements: YtnifkdcjphekpaaTotals.lean).
  GIVEN WITH THE SEED: the statements are not yours to turn. If you find one false, say at which input.
  Laid BY PROGRAM, IN A SANDBOX (cutbox-rows.mjs): the forced cells as the released guide's own fill.sh prints them over the translation 7b46cda7605fb5f5… (all of the seat's roots in one cut). By AI agents, Wed Nov 11 2026. No macro, syntax, notation, axiom, sorry.
-/
import Derived.Test.YtnifkdcjphekpaaChecked
import GoSem.Claim
import GoSem.ClaimJoined
import GoSem.ClaimMapViews
import Derived.JoinedTies
import Derived.KernelRfl
namespace Go.Proofs.Ytnifkdcjphekpaa
/- THE CELL 'sum', in the pinned program and in every row, IS THE sha256 OF THE DUMP (.gsa) THAT YtnifkdcjphekpaaProg.lean LOADS. Nothing in Lean hashes anything: it is a label: what it is worth is what the hold of that sum in a sandbox is worth. -/
noncomputable def Try.pinned : Pinned := { name := "ytnifkdcjphekpaa", sum := "7b46cda7605fb5f50e847184aa3ddd5cc0ab60055383692d5988150f670e7839", checked := Try.checked }
namespace Rows
def none {H : Type} : Left H := { results := [], args := [] }

/-- 'greenscreenlaw23.ReplyMost': WHATEVER THE INPUT: true; the input reads as it did. -/
def replyMostSpec : ChangeSpec := { name := "replyMost", fn := fun _ => fun
  | [d] => { results := [.lit (.bool true)], args := [d] }
  | _ => none }
def replyMostRow : OpenClaim := { program := "ytnifkdcjphekpaa", sum := "7b46cda7605fb5f50e847184aa3ddd5cc0ab60055383692d5988150f670e7839", func := "greenscreen/greenscreenlaw23.ReplyMost", spec := "replyMost", unfollowed := true, recurses := true, apart := false }
def ReplyMostSaid : Prop := replyMostRow.holds Try.pinned (OpenSpec.ofChange replyMostSpec)

/-- ITS FALSE NEIGHBOUR: 'it returns false'. Refute it at one input. -/
def replyMostWrong : ChangeSpec := { name := "replyMost", fn := fun _ => fun
  | [d] => { results := [.lit (.bool false)], args := [d] }
  | _ => none }
def ReplyMostWrongFalsely : Prop := replyMostRow.holds Try.pinned (OpenSpec.ofChange replyMostWrong)

/-- 'greenscreenlaw23.ReplyAlls': WHATEVER THE INPUT: true; the input reads as it did. -/
def replyAllsSpec : ChangeSpec := { name := "replyAlls", fn := fun _ => fun
  | [d1, d2, d3, d4] => { results := [.lit (.bool true)], args := [d1, d2, d3, d4] }
  | _ => none }
def replyAllsRow : OpenClaim := { program := "ytnifkdcjphekpaa", sum := "7b46cda7605fb5f50e847184aa3ddd5cc0ab60055383692d5988150f670e7839", func := "greenscreen/greenscreenlaw23.ReplyAlls", spec := "replyAlls", unfollowed := true, recurses := true, apart := false }
def ReplyAllsSaid : Prop := replyAllsRow.holds Try.pinned (OpenSpec.ofChange replyAllsSpec)

/-- ITS FALSE NEIGHBOUR: 'it returns false'. Refute it at one input. -/
def replyAllsWrong : ChangeSpec := { name := "replyAlls", fn := fun _ => fun
  | [d1, d2, d3, d4] => { results := [.lit (.bool false)], args := [d1, d2, d3, d4] }
  | _ => none }
def ReplyAllsWrongFalsely : Prop := replyAllsRow.holds Try.pinned (OpenSpec.ofChange replyAllsWrong)

/-- 'greenscreenlaw23.ReplyFields': WHATEVER THE INPUT: true; the input reads as it did. -/
def replyFieldsSpec : ChangeSpec := { name := "replyFields", fn := fun _ => fun
  | [d1, d2, d3] => { results := [.lit (.bool true)], args := [d1, d2, d3] }
  | _ => none }
def replyFieldsRow : OpenClaim := { program := "ytnifkdcjphekpaa", sum := "7b46cda7605fb5f50e847184aa3ddd5cc0ab60055383692d5988150f670e7839", func := "greenscreen/greenscreenlaw23.ReplyFields", spec := "replyFields", unfollowed := true, recurses := true, apart := false }
def ReplyFieldsSaid : Prop := replyFieldsRow.holds Try.pinned (OpenSpec.ofChange replyFieldsSpec)

/-- ITS FALSE NEIGHBOUR: 'it returns false'. Refute it at one input. -/
def replyFieldsWrong : ChangeSpec := { name := "replyFields", fn := fun _ => fun
  | [d1, d2, d3] => { results := [.lit (.bool false)], args := [d1, d2, d3] }
  | _ => none }
def ReplyFieldsWrongFalsely : Prop := replyFieldsRow.holds Try.pinned (OpenSpec.ofChange replyFieldsWrong)

/-- 'greenscreenlaw23.ReplySends': WHATEVER THE INPUT: true; the input reads as it did. -/
def replySendsSpec : ChangeSpec := { name := "replySends", fn := fun _ => fun
  | [d1, d2, d3, d4, d5] => { results := [.lit (.bool true)], args := [d1, d2, d3, d4, d5] }
  | _ => none }
def replySendsRow : OpenClaim := { program := "ytnifkdcjphekpaa", sum := "7b46cda7605fb5f50e847184aa3ddd5cc0ab60055383692d5988150f670e7839", func := "greenscreen/greenscreenlaw23.ReplySends", spec := "replySends", unfollowed := true, recurses := true, apart := false }
def ReplySendsSaid : Prop := replySendsRow.holds Try.pinned (OpenSpec.ofChange replySendsSpec)

/-- ITS FALSE NEIGHBOUR: 'it returns false'. Refute it at one input. -/
def replySendsWrong : ChangeSpec := { name := "replySends", fn := fun _ => fun
  | [d1, d2, d3, d4, d5] => { results := [.lit (.bool false)], args := [d1, d2, d3, d4, d5] }
  | _ => none }
def ReplySendsWrongFalsely : Prop := replySendsRow.holds Try.pinned (OpenSpec.ofChange replySendsWrong)

/- THE SECOND FORM. 'bulk': how many values and letters a reading holds, each counted each time it is reached (what is shared counts as often as it is met; a slice's spare places count too). A statement '..UptoSaid' is the law's where the arguments, and the package variables that the reading takes, are together of bulk at most 1048576: NARROWER than '..Said'. Prove '..Said' where nothing that the law and all that it calls make is longer than what came in: it says more and counts as full. Else prove '..UptoSaid'. A law counts once. -/
mutual
def uptoBulk {H : Type} : DataW H → Nat
  | .lit (.string bytes) => bytes.length + 1
  | .lit _ => 1
  | .nil => 1
  | .ptr d => uptoBulk d + 1
  | .slice elems spare => uptoBulkAll elems + uptoBulkAll spare + 1
  | .agg parts => uptoBulkAll parts + 1
  | .iface _ d => uptoBulk d + 1
  | .map entries => uptoBulkEntries entries + 1
  | .held _ => 1
def uptoBulkAll {H : Type} : List (DataW H) → Nat
  | [] => 0
  | d :: r => uptoBulk d + uptoBulkAll r
def uptoBulkEntries {H : Type} : List (Lit × DataW H) → Nat
  | [] => 0
  | x :: r => uptoBulkEntry x + uptoBulkEntries r
def uptoBulkEntry {H : Type} : Lit × DataW H → Nat
  | (.string bytes, d) => bytes.length + uptoBulk d + 1
  | (_, d) => uptoBulk d + 1
 end
def uptoSmall : (H : Type) → List (DataW H) → Bool := fun _ ds => decide (uptoBulkAll ds ≤ 1048576)
def OpenSpec.upto (s : _root_.Go.ChangeSpec) : _root_.Go.OpenSpec := { _root_.Go.OpenSpec.ofChange s with cond := some uptoSmall }

/-- 'greenscreenlaw23.ReplyMost', WHERE WHAT IT READS IS OF BULK AT MOST 1048576: true; the input reads as it did. -/
def replyMostUptoRow : OpenClaim := { program := "ytnifkdcjphekpaa", sum := "7b46cda7605fb5f50e847184aa3ddd5cc0ab60055383692d5988150f670e7839", func := "greenscreen/greenscreenlaw23.ReplyMost", spec := "replyMost", unfollowed := true, recurses := true, apart := false, narrowed := true }
def ReplyMostUptoSaid : Prop := replyMostUptoRow.holds Try.pinned (OpenSpec.upto replyMostSpec)

/-- 'greenscreenlaw23.ReplyAlls', WHERE WHAT IT READS IS OF BULK AT MOST 1048576: true; the input reads as it did. -/
def replyAllsUptoRow : OpenClaim := { program := "ytnifkdcjphekpaa", sum := "7b46cda7605fb5f50e847184aa3ddd5cc0ab60055383692d5988150f670e7839", func := "greenscreen/greenscreenlaw23.ReplyAlls", spec := "replyAlls", unfollowed := true, recurses := true, apart := false, narrowed := true }
def ReplyAllsUptoSaid : Prop := replyAllsUptoRow.holds Try.pinned (OpenSpec.upto replyAllsSpec)

/-- 'greenscreenlaw23.ReplyFields', WHERE WHAT IT READS IS OF BULK AT MOST 1048576: true; the input reads as it did. -/
def replyFieldsUptoRow : OpenClaim := { program := "ytnifkdcjphekpaa", sum := "7b46cda7605fb5f50e847184aa3ddd5cc0ab60055383692d5988150f670e7839", func := "greenscreen/greenscreenlaw23.ReplyFields", spec := "replyFields", unfollowed := true, recurses := true, apart := false, narrowed := true }
def ReplyFieldsUptoSaid : Prop := replyFieldsUptoRow.holds Try.pinned (OpenSpec.upto replyFieldsSpec)

/-- 'greenscreenlaw23.ReplySends', WHERE WHAT IT READS IS OF BULK AT MOST 1048576: true; the input reads as it did. -/
def replySendsUptoRow : OpenClaim := { program := "ytnifkdcjphekpaa", sum := "7b46cda7605fb5f50e847184aa3ddd5cc0ab60055383692d5988150f670e7839", func := "greenscreen/greenscreenlaw23.ReplySends", spec := "replySends", unfollowed := true, recurses := true, apart := false, narrowed := true }
def ReplySendsUptoSaid : Prop := replySendsUptoRow.holds Try.pinned (OpenSpec.upto replySendsSpec)

end Rows
end Go.Proofs.Ytnifkdcjphekpaa
