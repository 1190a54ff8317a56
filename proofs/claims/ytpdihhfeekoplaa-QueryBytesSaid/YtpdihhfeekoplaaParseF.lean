/- query.Parse: what it answers, in plain Lean. -/
import Derived.Test.YtpdihhfeekoplaaLayAll
import Derived.Test.YtpdihhfeekoplaaAx2
namespace Go.Proofs.Ytpdihhfeekoplaa.P
open Go.RowKit Go.Proofs.YtpdihhfeekoplaaW.PrintWords Go.Proofs.YtpdihhfeekoplaaW.PrintLast Go.Proofs.YtpdihhfeekoplaaW.PrintMore
open Go.Proofs.Ytpdihhfeekoplaa.A
set_option linter.unusedVariables false
set_option linter.unusedSimpArgs false

/-- The loop of query.Parse, over the kinds that are left. -/
def parse_l : List Int → List Int → Ter → Option (Int ⊕ Ter)
  | [], _, t => some (.inr t)
  | kind :: ks, rest, t => (query_cut.f 5 rest kind).bind fun r =>
      if r.2.2 = 0 then (layf kind r.1 t).bind fun b => if b.1 = true then parse_l ks r.2.1 b.2 else some (.inl 21)
      else some (.inl r.2.2)
def none_f (e : Int) : Int × Int × Int × Int × List Int × List Int × Int := (0, 0, 0, 0, [], [], e)
/-- What stands behind the loop. -/
def parse_end (l : List Int) (t : Ter) : Option (Int × Int × Int × Int × List Int × List Int × Int) :=
  (query_Write.f 30 t.1 t.2.1 t.2.2.1 t.2.2.2.1 t.2.2.2.2.1 t.2.2.2.2.2).bind fun r =>
    if r.2 = 0 then (slices_Equal_byte_byte.f (r.1.length + 5) r.1 l).bind fun s => if s = true then some (t.1, t.2.1, t.2.2.1, t.2.2.2.1, t.2.2.2.2.1, t.2.2.2.2.2, 0) else some (none_f 21)
    else some (none_f 21)
def parse_out (l : List Int) : Int ⊕ Ter → Option (Int × Int × Int × Int × List Int × List Int × Int)
  | .inl e => some (none_f e)
  | .inr t => parse_end l t
def parse_f (l : List Int) : Option (Int × Int × Int × Int × List Int × List Int × Int) :=
  if l.length = 0 then some (none_f 20)
  else if rd l 0 = 136 then (parse_l [128, 129, 134, 135, 166] (l.drop 1) (0, 0, 0, 0, [], [])).bind (parse_out l)
  else some (none_f 21)
end Go.Proofs.Ytpdihhfeekoplaa.P
