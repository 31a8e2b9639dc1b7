import Derived.Test.YtknmfmedklfepaaGreatDoorP42
namespace Go.Proofs.YtknmfmedklfepaaGreatDoor.P
open Go.RowKit Go.Proofs.YtknmfmedklfepaaGreatDoorW.PrintWords Go.Proofs.YtknmfmedklfepaaGreatDoorW.PrintLast
/-- The pure statement of graftwood/graftwoodlaw17.ListAbove. -/
def graftwoodlaw17_ListAbove.Goal : Prop := ∀ (x0 : List (S55)) (x1 : List (S55)), (x0.length ≤ maxLen ∧ ∀ y7, y7 ∈ x0 → (y7.f0.size ≤ maxLen ∧ y7.f1.size ≤ maxLen)) → (x1.length ≤ maxLen ∧ ∀ y8, y8 ∈ x1 → (y8.f0.size ≤ maxLen ∧ y8.f1.size ≤ maxLen)) → ∃ k, graftwoodlaw17_ListAbove.f k x0 x1 = some true
end Go.Proofs.YtknmfmedklfepaaGreatDoor.P
