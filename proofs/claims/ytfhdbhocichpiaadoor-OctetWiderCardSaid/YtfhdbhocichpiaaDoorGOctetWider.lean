import Derived.Test.YtfhdbhocichpiaaDoorP13
namespace Go.Proofs.YtfhdbhocichpiaaDoor.P
open Go.RowKit Go.Proofs.YtfhdbhocichpiaaDoorW.PrintWords Go.Proofs.YtfhdbhocichpiaaDoorW.PrintLast
/-- The pure statement of graftwood/graftwoodlaw01.OctetWider. -/
def graftwoodlaw01_OctetWider.Goal : Prop := ∀ (x0 : ByteArray) (x1 : ByteArray) (x2 : List Int), x0.size ≤ maxLen → x1.size ≤ maxLen → (x2.length ≤ maxLen ∧ ∀ y1, y1 ∈ x2 → (Lit.int .i64 y1).wf = true) → graftwoodlaw01_OctetWider.f x0 x1 x2 = some true
end Go.Proofs.YtfhdbhocichpiaaDoor.P
