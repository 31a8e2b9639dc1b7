import Derived.Test.YtgcgpcoeffillaaDoorP11
namespace Go.Proofs.YtgcgpcoeffillaaDoor.P
open Go.RowKit Go.Proofs.YtgcgpcoeffillaaDoorW.PrintWords Go.Proofs.YtgcgpcoeffillaaDoorW.PrintLast
/-- The pure statement of graftwood/graftwoodlaw04.PathJoins. -/
def graftwoodlaw04_PathJoins.Goal : Prop := ∀ (x0 : List ByteArray), (x0.length ≤ maxLen ∧ ∀ y1, y1 ∈ x0 → y1.size ≤ maxLen) → ∃ k, graftwoodlaw04_PathJoins.f k x0 = some true
end Go.Proofs.YtgcgpcoeffillaaDoor.P
