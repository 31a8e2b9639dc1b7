import Derived.Test.YtknmfmedklfepaaGreatDoorP27
namespace Go.Proofs.YtknmfmedklfepaaGreatDoor.P
open Go.RowKit Go.Proofs.YtknmfmedklfepaaGreatDoorW.PrintWords Go.Proofs.YtknmfmedklfepaaGreatDoorW.PrintLast
/-- The pure statement of graftwood/graftwoodlaw17.ListMore. -/
def graftwoodlaw17_ListMore.Goal : Prop := ∀ (x0 : List (S63)) (x1 : S55), (x0.length ≤ maxLen ∧ ∀ y1, y1 ∈ x0 → (y1.f0.size ≤ maxLen ∧ (y1.f1.length ≤ maxLen ∧ ∀ y2, y2 ∈ y1.f1 → y2.size ≤ maxLen))) → (x1.f0.size ≤ maxLen ∧ x1.f1.size ≤ maxLen) → ∃ k, graftwoodlaw17_ListMore.f k x0 x1.f0 x1.f1 = some true
end Go.Proofs.YtknmfmedklfepaaGreatDoor.P
