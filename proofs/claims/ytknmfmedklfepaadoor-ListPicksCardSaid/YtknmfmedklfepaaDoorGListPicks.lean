import Derived.Test.YtknmfmedklfepaaDoorP27
namespace Go.Proofs.YtknmfmedklfepaaDoor.P
open Go.RowKit Go.Proofs.YtknmfmedklfepaaDoorW.PrintWords Go.Proofs.YtknmfmedklfepaaDoorW.PrintLast
/-- The pure statement of graftwood/graftwoodlaw17.ListPicks. -/
def graftwoodlaw17_ListPicks.Goal : Prop := ∀ (x0 : List (S33)) (x1 : List (S33)) (x2 : ByteArray), (x0.length ≤ maxLen ∧ ∀ y1, y1 ∈ x0 → (y1.f0.size ≤ maxLen ∧ y1.f1.size ≤ maxLen)) → (x1.length ≤ maxLen ∧ ∀ y2, y2 ∈ x1 → (y2.f0.size ≤ maxLen ∧ y2.f1.size ≤ maxLen)) → x2.size ≤ maxLen → ∃ k, graftwoodlaw17_ListPicks.f k x0 x1 x2 = some true
end Go.Proofs.YtknmfmedklfepaaDoor.P
