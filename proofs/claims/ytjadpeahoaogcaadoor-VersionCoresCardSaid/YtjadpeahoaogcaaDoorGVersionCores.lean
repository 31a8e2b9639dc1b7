import Derived.Test.YtjadpeahoaogcaaDoorP32
namespace Go.Proofs.YtjadpeahoaogcaaDoor.P
open Go.RowKit Go.Proofs.YtjadpeahoaogcaaDoorW.PrintWords Go.Proofs.YtjadpeahoaogcaaDoorW.PrintLast
/-- The pure statement of graftwood/graftwoodlaw03.VersionCores. -/
def graftwoodlaw03_VersionCores.Goal : Prop := ∀ (x0 : S36) (x1 : S36), (x0.f0.size ≤ maxLen ∧ x0.f1.size ≤ maxLen ∧ x0.f2.size ≤ maxLen ∧ (x0.f3.length ≤ maxLen ∧ ∀ y9, y9 ∈ x0.f3 → y9.size ≤ maxLen)) → (x1.f0.size ≤ maxLen ∧ x1.f1.size ≤ maxLen ∧ x1.f2.size ≤ maxLen ∧ (x1.f3.length ≤ maxLen ∧ ∀ y10, y10 ∈ x1.f3 → y10.size ≤ maxLen)) → ∃ k, graftwoodlaw03_VersionCores.f k x0.f0 x0.f1 x0.f2 x0.f3 x1.f0 x1.f1 x1.f2 x1.f3 = some true
end Go.Proofs.YtjadpeahoaogcaaDoor.P
