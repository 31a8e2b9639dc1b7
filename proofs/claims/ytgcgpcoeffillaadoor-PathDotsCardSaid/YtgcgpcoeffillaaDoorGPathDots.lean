import Derived.Test.YtgcgpcoeffillaaDoorP15
namespace Go.Proofs.YtgcgpcoeffillaaDoor.P
open Go.RowKit Go.Proofs.YtgcgpcoeffillaaDoorW.PrintWords Go.Proofs.YtgcgpcoeffillaaDoorW.PrintLast
/-- The pure statement of graftwood/graftwoodlaw04.PathDots. -/
def graftwoodlaw04_PathDots.Goal : Prop := ∀ (x0 : ByteArray), x0.size ≤ maxLen → ∃ k, graftwoodlaw04_PathDots.f k x0 = some true
end Go.Proofs.YtgcgpcoeffillaaDoor.P
