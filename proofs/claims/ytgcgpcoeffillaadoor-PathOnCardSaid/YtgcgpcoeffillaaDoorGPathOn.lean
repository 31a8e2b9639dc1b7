import Derived.Test.YtgcgpcoeffillaaDoorP14
namespace Go.Proofs.YtgcgpcoeffillaaDoor.P
open Go.RowKit Go.Proofs.YtgcgpcoeffillaaDoorW.PrintWords Go.Proofs.YtgcgpcoeffillaaDoorW.PrintLast
/-- The pure statement of graftwood/graftwoodlaw04.PathOn. -/
def graftwoodlaw04_PathOn.Goal : Prop := ∀ (x0 : ByteArray) (x1 : ByteArray), x0.size ≤ maxLen → x1.size ≤ maxLen → ∃ k, graftwoodlaw04_PathOn.f k x0 x1 = some true
end Go.Proofs.YtgcgpcoeffillaaDoor.P
