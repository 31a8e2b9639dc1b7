import Derived.Test.YtfhdbhocichpiaaDoorP2
namespace Go.Proofs.YtfhdbhocichpiaaDoor.P
open Go.RowKit Go.Proofs.YtfhdbhocichpiaaDoorW.PrintWords Go.Proofs.YtfhdbhocichpiaaDoorW.PrintLast
/-- The pure statement of graftwood/graftwoodlaw01.OctetParts. -/
def graftwoodlaw01_OctetParts.Goal : Prop := ∀ (x0 : ByteArray) (x1 : Int), x0.size ≤ maxLen → (Lit.int .u8 x1).wf = true → ∃ k, graftwoodlaw01_OctetParts.f k x0 x1 = some true
end Go.Proofs.YtfhdbhocichpiaaDoor.P
