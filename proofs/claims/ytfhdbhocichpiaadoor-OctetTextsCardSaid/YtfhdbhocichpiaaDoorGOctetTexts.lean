import Derived.Test.YtfhdbhocichpiaaDoorP6
namespace Go.Proofs.YtfhdbhocichpiaaDoor.P
open Go.RowKit Go.Proofs.YtfhdbhocichpiaaDoorW.PrintWords Go.Proofs.YtfhdbhocichpiaaDoorW.PrintLast
/-- The pure statement of graftwood/graftwoodlaw01.OctetTexts. -/
def graftwoodlaw01_OctetTexts.Goal : Prop := ∀ (x0 : ByteArray) (x1 : ByteArray) (x2 : Int), x0.size ≤ maxLen → x1.size ≤ maxLen → (Lit.int .u8 x2).wf = true → ∃ k, graftwoodlaw01_OctetTexts.f k x0 x1 x2 = some true
end Go.Proofs.YtfhdbhocichpiaaDoor.P
