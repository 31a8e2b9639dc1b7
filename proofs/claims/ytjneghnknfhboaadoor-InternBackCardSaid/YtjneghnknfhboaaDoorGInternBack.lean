import Derived.Test.YtjneghnknfhboaaDoorP34
namespace Go.Proofs.YtjneghnknfhboaaDoor.P
open Go.RowKit Go.Proofs.YtjneghnknfhboaaDoorW.PrintWords Go.Proofs.YtjneghnknfhboaaDoorW.PrintLast
/-- The pure statement of graftwood/graftwoodlaw10.InternBack. -/
def graftwoodlaw10_InternBack.Goal : Prop := ∀ (x0 : S24), ((x0.f0.length ≤ maxLen ∧ ∀ y7, y7 ∈ x0.f0 → (y7.f0.size ≤ maxLen ∧ y7.f1.size ≤ maxLen))) → ∃ k, graftwoodlaw10_InternBack.f k x0.f0 = some true
end Go.Proofs.YtjneghnknfhboaaDoor.P
