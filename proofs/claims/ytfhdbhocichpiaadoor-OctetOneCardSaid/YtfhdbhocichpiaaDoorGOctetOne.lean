import Derived.Test.YtfhdbhocichpiaaDoorP12
namespace Go.Proofs.YtfhdbhocichpiaaDoor.P
open Go.RowKit Go.Proofs.YtfhdbhocichpiaaDoorW.PrintWords Go.Proofs.YtfhdbhocichpiaaDoorW.PrintLast
/-- The pure statement of graftwood/graftwoodlaw01.OctetOne. -/
def graftwoodlaw01_OctetOne.Goal : Prop := ∀ (x0 : Int) (x1 : ByteArray), (Lit.int .u8 x0).wf = true → x1.size ≤ maxLen → ∃ k, graftwoodlaw01_OctetOne.f k x0 x1 = some true
end Go.Proofs.YtfhdbhocichpiaaDoor.P
