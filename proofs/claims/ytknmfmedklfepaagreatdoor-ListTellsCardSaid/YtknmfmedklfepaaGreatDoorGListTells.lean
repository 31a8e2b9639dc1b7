import Derived.Test.YtknmfmedklfepaaGreatDoorP39
namespace Go.Proofs.YtknmfmedklfepaaGreatDoor.P
open Go.RowKit Go.Proofs.YtknmfmedklfepaaGreatDoorW.PrintWords Go.Proofs.YtknmfmedklfepaaGreatDoorW.PrintLast
/-- The pure statement of graftwood/graftwoodlaw17.ListTells. -/
def graftwoodlaw17_ListTells.Goal : Prop := ∀ (x0 : List (S55)) (x1 : List (S63)) (x2 : ByteArray), (x0.length ≤ maxLen ∧ ∀ y1, y1 ∈ x0 → (y1.f0.size ≤ maxLen ∧ y1.f1.size ≤ maxLen)) → (x1.length ≤ maxLen ∧ ∀ y2, y2 ∈ x1 → (y2.f0.size ≤ maxLen ∧ (y2.f1.length ≤ maxLen ∧ ∀ y3, y3 ∈ y2.f1 → y3.size ≤ maxLen))) → x2.size ≤ maxLen → ∃ k, graftwoodlaw17_ListTells.f k x0 x1 x2 = some true
end Go.Proofs.YtknmfmedklfepaaGreatDoor.P
