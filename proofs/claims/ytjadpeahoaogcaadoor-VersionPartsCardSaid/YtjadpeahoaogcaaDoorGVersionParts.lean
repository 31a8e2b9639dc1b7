import Derived.Test.YtjadpeahoaogcaaDoorP29
namespace Go.Proofs.YtjadpeahoaogcaaDoor.P
open Go.RowKit Go.Proofs.YtjadpeahoaogcaaDoorW.PrintWords Go.Proofs.YtjadpeahoaogcaaDoorW.PrintLast
/-- The pure statement of graftwood/graftwoodlaw03.VersionParts. -/
def graftwoodlaw03_VersionParts.Goal : Prop := ∀ (x0 : ByteArray) (x1 : S36), x0.size ≤ maxLen → (x1.f0.size ≤ maxLen ∧ x1.f1.size ≤ maxLen ∧ x1.f2.size ≤ maxLen ∧ (x1.f3.length ≤ maxLen ∧ ∀ y5, y5 ∈ x1.f3 → y5.size ≤ maxLen)) → ∃ k, graftwoodlaw03_VersionParts.f k x0 x1.f0 x1.f1 x1.f2 x1.f3 = some true
end Go.Proofs.YtjadpeahoaogcaaDoor.P
