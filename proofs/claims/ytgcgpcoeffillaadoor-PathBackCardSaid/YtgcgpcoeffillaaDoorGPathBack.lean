import Derived.Test.YtgcgpcoeffillaaDoorP12
namespace Go.Proofs.YtgcgpcoeffillaaDoor.P
open Go.RowKit Go.Proofs.YtgcgpcoeffillaaDoorW.PrintWords Go.Proofs.YtgcgpcoeffillaaDoorW.PrintLast
/-- The pure statement of graftwood/graftwoodlaw04.PathBack. -/
def graftwoodlaw04_PathBack.Goal : Prop := ∀ (x0 : ByteArray) (x1 : ByteArray), x0.size ≤ maxLen → x1.size ≤ maxLen → ∃ k, graftwoodlaw04_PathBack.f k x0 x1 = some true
end Go.Proofs.YtgcgpcoeffillaaDoor.P
