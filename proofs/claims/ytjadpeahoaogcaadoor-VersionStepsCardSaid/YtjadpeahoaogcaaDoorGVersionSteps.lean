import Derived.Test.YtjadpeahoaogcaaDoorP17
namespace Go.Proofs.YtjadpeahoaogcaaDoor.P
open Go.RowKit Go.Proofs.YtjadpeahoaogcaaDoorW.PrintWords Go.Proofs.YtjadpeahoaogcaaDoorW.PrintLast
/-- The pure statement of graftwood/graftwoodlaw03.VersionSteps. -/
def graftwoodlaw03_VersionSteps.Goal : Prop := ∀ (x0 : S36) (x1 : ByteArray) (x2 : Int), (x0.f0.size ≤ maxLen ∧ x0.f1.size ≤ maxLen ∧ x0.f2.size ≤ maxLen ∧ (x0.f3.length ≤ maxLen ∧ ∀ y1, y1 ∈ x0.f3 → y1.size ≤ maxLen)) → x1.size ≤ maxLen → (Lit.int .u8 x2).wf = true → ∃ k, graftwoodlaw03_VersionSteps.f k x0.f0 x0.f1 x0.f2 x0.f3 x1 x2 = some true
end Go.Proofs.YtjadpeahoaogcaaDoor.P
