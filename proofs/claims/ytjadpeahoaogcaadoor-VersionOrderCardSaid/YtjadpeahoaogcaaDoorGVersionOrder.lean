import Derived.Test.YtjadpeahoaogcaaDoorP16
namespace Go.Proofs.YtjadpeahoaogcaaDoor.P
open Go.RowKit Go.Proofs.YtjadpeahoaogcaaDoorW.PrintWords Go.Proofs.YtjadpeahoaogcaaDoorW.PrintLast
/-- The pure statement of graftwood/graftwoodlaw03.VersionOrder. -/
def graftwoodlaw03_VersionOrder.Goal : Prop := ∀ (x0 : ByteArray) (x1 : ByteArray) (x2 : ByteArray), x0.size ≤ maxLen → x1.size ≤ maxLen → x2.size ≤ maxLen → ∃ k, graftwoodlaw03_VersionOrder.f k x0 x1 x2 = some true
end Go.Proofs.YtjadpeahoaogcaaDoor.P
