import Derived.Test.YtjadpeahoaogcaaDoorP22
namespace Go.Proofs.YtjadpeahoaogcaaDoor.P
open Go.RowKit Go.Proofs.YtjadpeahoaogcaaDoorW.PrintWords Go.Proofs.YtjadpeahoaogcaaDoorW.PrintLast
/-- The pure statement of graftwood/graftwoodlaw03.VersionOrders. -/
def graftwoodlaw03_VersionOrders.Goal : Prop := ∀ (x0 : ByteArray) (x1 : ByteArray) (x2 : List ByteArray), x0.size ≤ maxLen → x1.size ≤ maxLen → (x2.length ≤ maxLen ∧ ∀ y1, y1 ∈ x2 → y1.size ≤ maxLen) → ∃ k, graftwoodlaw03_VersionOrders.f k x0 x1 x2 = some true
end Go.Proofs.YtjadpeahoaogcaaDoor.P
