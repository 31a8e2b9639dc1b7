import Derived.Test.YtjneghnknfhboaaDoorP27
namespace Go.Proofs.YtjneghnknfhboaaDoor.P
open Go.RowKit Go.Proofs.YtjneghnknfhboaaDoorW.PrintWords Go.Proofs.YtjneghnknfhboaaDoorW.PrintLast
/-- The pure statement of graftwood/graftwoodlaw10.InternAll. -/
def graftwoodlaw10_InternAll.Goal : Prop := ∀ (x0 : S24) (x1 : List (S34)), ((x0.f0.length ≤ maxLen ∧ ∀ y1, y1 ∈ x0.f0 → (y1.f0.size ≤ maxLen ∧ y1.f1.size ≤ maxLen))) → (x1.length ≤ maxLen ∧ ∀ y2, y2 ∈ x1 → (y2.f0.size ≤ maxLen ∧ y2.f1.size ≤ maxLen)) → ∃ k, graftwoodlaw10_InternAll.f k x0.f0 x1 = some true
end Go.Proofs.YtjneghnknfhboaaDoor.P
