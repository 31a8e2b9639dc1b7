import Derived.Test.YtknmfmedklfepaaDoorP30
namespace Go.Proofs.YtknmfmedklfepaaDoor.P
open Go.RowKit Go.Proofs.YtknmfmedklfepaaDoorW.PrintWords Go.Proofs.YtknmfmedklfepaaDoorW.PrintLast
/-- The pure statement of graftwood/graftwoodlaw17.ListGoes. -/
def graftwoodlaw17_ListGoes.Goal : Prop := ∀ (x0 : List (S33)) (x1 : List (S33)) (x2 : List (S33)), (x0.length ≤ maxLen ∧ ∀ y5, y5 ∈ x0 → (y5.f0.size ≤ maxLen ∧ y5.f1.size ≤ maxLen)) → (x1.length ≤ maxLen ∧ ∀ y6, y6 ∈ x1 → (y6.f0.size ≤ maxLen ∧ y6.f1.size ≤ maxLen)) → (x2.length ≤ maxLen ∧ ∀ y7, y7 ∈ x2 → (y7.f0.size ≤ maxLen ∧ y7.f1.size ≤ maxLen)) → ∃ k, graftwoodlaw17_ListGoes.f k x0 x1 x2 = some true
end Go.Proofs.YtknmfmedklfepaaDoor.P
