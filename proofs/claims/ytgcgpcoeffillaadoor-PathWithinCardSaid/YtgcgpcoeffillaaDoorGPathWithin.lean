import Derived.Test.YtgcgpcoeffillaaDoorP13
namespace Go.Proofs.YtgcgpcoeffillaaDoor.P
open Go.RowKit Go.Proofs.YtgcgpcoeffillaaDoorW.PrintWords Go.Proofs.YtgcgpcoeffillaaDoorW.PrintLast
/-- The pure statement of graftwood/graftwoodlaw04.PathWithin. -/
def graftwoodlaw04_PathWithin.Goal : Prop := ∀ (x0 : ByteArray) (x1 : ByteArray) (x2 : ByteArray), x0.size ≤ maxLen → x1.size ≤ maxLen → x2.size ≤ maxLen → ∃ k, graftwoodlaw04_PathWithin.f k x0 x1 x2 = some true
end Go.Proofs.YtgcgpcoeffillaaDoor.P
