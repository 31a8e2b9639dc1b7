import Derived.Test.YtjneghnknfhboaaDoorP32
namespace Go.Proofs.YtjneghnknfhboaaDoor.P
open Go.RowKit Go.Proofs.YtjneghnknfhboaaDoorW.PrintWords Go.Proofs.YtjneghnknfhboaaDoorW.PrintLast
/-- The pure statement of graftwood/graftwoodlaw10.InternDense. -/
def graftwoodlaw10_InternDense.Goal : Prop := ∀ (x0 : List (S34)), (x0.length ≤ maxLen ∧ ∀ y5, y5 ∈ x0 → (y5.f0.size ≤ maxLen ∧ y5.f1.size ≤ maxLen)) → ∃ k, graftwoodlaw10_InternDense.f k x0 = some true
end Go.Proofs.YtjneghnknfhboaaDoor.P
