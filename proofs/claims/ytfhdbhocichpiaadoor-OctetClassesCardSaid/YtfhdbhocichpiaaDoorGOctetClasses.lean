import Derived.Test.YtfhdbhocichpiaaDoorP11
namespace Go.Proofs.YtfhdbhocichpiaaDoor.P
open Go.RowKit Go.Proofs.YtfhdbhocichpiaaDoorW.PrintWords Go.Proofs.YtfhdbhocichpiaaDoorW.PrintLast
/-- The pure statement of graftwood/graftwoodlaw01.OctetClasses. -/
def graftwoodlaw01_OctetClasses.Goal : Prop := ∀ (x0 : Int) (x1 : ByteArray) (x2 : List Int), (Lit.int .u8 x0).wf = true → x1.size ≤ maxLen → (x2.length ≤ maxLen ∧ ∀ y3, y3 ∈ x2 → (Lit.int .i64 y3).wf = true) → ∃ k, graftwoodlaw01_OctetClasses.f k x0 x1 x2 = some true
end Go.Proofs.YtfhdbhocichpiaaDoor.P
