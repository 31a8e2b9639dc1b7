import Derived.Test.YtfhdbhocichpiaaDoorP7
namespace Go.Proofs.YtfhdbhocichpiaaDoor.P
open Go.RowKit Go.Proofs.YtfhdbhocichpiaaDoorW.PrintWords Go.Proofs.YtfhdbhocichpiaaDoorW.PrintLast
/-- The pure statement of graftwood/graftwoodlaw01.OctetOrder. -/
def graftwoodlaw01_OctetOrder.Goal : Prop := ∀ (x0 : ByteArray) (x1 : ByteArray) (x2 : ByteArray), x0.size ≤ maxLen → x1.size ≤ maxLen → x2.size ≤ maxLen → ∃ k, graftwoodlaw01_OctetOrder.f k x0 x1 x2 = some true
end Go.Proofs.YtfhdbhocichpiaaDoor.P
