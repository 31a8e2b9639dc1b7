import Derived.Test.YtjneghnknfhboaaDoorP36
namespace Go.Proofs.YtjneghnknfhboaaDoor.P
open Go.RowKit Go.Proofs.YtjneghnknfhboaaDoorW.PrintWords Go.Proofs.YtjneghnknfhboaaDoorW.PrintLast
/-- The pure statement of graftwood/graftwoodlaw10.InternTells. -/
def graftwoodlaw10_InternTells.Goal : Prop := ∀ (x0 : S24) (x1 : S34) (x2 : List Int), ((x0.f0.length ≤ maxLen ∧ ∀ y9, y9 ∈ x0.f0 → (y9.f0.size ≤ maxLen ∧ y9.f1.size ≤ maxLen))) → (x1.f0.size ≤ maxLen ∧ x1.f1.size ≤ maxLen) → (x2.length ≤ maxLen ∧ ∀ y10, y10 ∈ x2 → (Lit.int .i64 y10).wf = true) → ∃ k, graftwoodlaw10_InternTells.f k x0.f0 x1.f0 x1.f1 x2 = some true
end Go.Proofs.YtjneghnknfhboaaDoor.P
