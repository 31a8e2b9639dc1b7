import Derived.Test.YtjneghnknfhboaaDoorP36
namespace Go.Proofs.YtjneghnknfhboaaDoor.P
open Go.RowKit Go.Proofs.YtjneghnknfhboaaDoorW.PrintWords Go.Proofs.YtjneghnknfhboaaDoorW.PrintLast
/-- The pure statement of graftwood/graftwoodlaw10.InternStays. -/
def graftwoodlaw10_InternStays.Goal : Prop := ∀ (x0 : S24) (x1 : List (S34)) (x2 : List (S34)), ((x0.f0.length ≤ maxLen ∧ ∀ y9, y9 ∈ x0.f0 → (y9.f0.size ≤ maxLen ∧ y9.f1.size ≤ maxLen))) → (x1.length ≤ maxLen ∧ ∀ y10, y10 ∈ x1 → (y10.f0.size ≤ maxLen ∧ y10.f1.size ≤ maxLen)) → (x2.length ≤ maxLen ∧ ∀ y11, y11 ∈ x2 → (y11.f0.size ≤ maxLen ∧ y11.f1.size ≤ maxLen)) → ∃ k, graftwoodlaw10_InternStays.f k x0.f0 x1 x2 = some true
end Go.Proofs.YtjneghnknfhboaaDoor.P
