import Derived.Test.YtknmfmedklfepaaGreatDoorP37
namespace Go.Proofs.YtknmfmedklfepaaGreatDoor.P
open Go.RowKit Go.Proofs.YtknmfmedklfepaaGreatDoorW.PrintWords Go.Proofs.YtknmfmedklfepaaGreatDoorW.PrintLast
/-- The pure statement of graftwood/graftwoodlaw17.ListChanges. -/
def graftwoodlaw17_ListChanges.Goal : Prop := ∀ (x0 : List (S55)) (x1 : List (S55)) (x2 : List (S75)), (x0.length ≤ maxLen ∧ ∀ y1, y1 ∈ x0 → (y1.f0.size ≤ maxLen ∧ y1.f1.size ≤ maxLen)) → (x1.length ≤ maxLen ∧ ∀ y2, y2 ∈ x1 → (y2.f0.size ≤ maxLen ∧ y2.f1.size ≤ maxLen)) → (x2.length ≤ maxLen ∧ ∀ y3, y3 ∈ x2 → (y3.f0.size ≤ maxLen ∧ y3.f1.size ≤ maxLen ∧ y3.f2.size ≤ maxLen)) → ∃ k, graftwoodlaw17_ListChanges.f k x0 x1 x2 = some true
end Go.Proofs.YtknmfmedklfepaaGreatDoor.P
