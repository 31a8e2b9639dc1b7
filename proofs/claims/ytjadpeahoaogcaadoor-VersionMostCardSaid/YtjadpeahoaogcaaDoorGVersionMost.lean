import Derived.Test.YtjadpeahoaogcaaDoorP23
namespace Go.Proofs.YtjadpeahoaogcaaDoor.P
open Go.RowKit Go.Proofs.YtjadpeahoaogcaaDoorW.PrintWords Go.Proofs.YtjadpeahoaogcaaDoorW.PrintLast
/-- The pure statement of graftwood/graftwoodlaw03.VersionMost. -/
def graftwoodlaw03_VersionMost.Goal : Prop := ∀ (x0 : List ByteArray), (x0.length ≤ maxLen ∧ ∀ y3, y3 ∈ x0 → y3.size ≤ maxLen) → ∃ k, graftwoodlaw03_VersionMost.f k x0 = some true
end Go.Proofs.YtjadpeahoaogcaaDoor.P
