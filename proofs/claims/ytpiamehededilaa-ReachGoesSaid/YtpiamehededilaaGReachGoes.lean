import Derived.Test.YtpiamehededilaaP22
namespace Go.Proofs.Ytpiamehededilaa.P
open Go.RowKit Go.Proofs.YtpiamehededilaaW.PrintWords Go.Proofs.YtpiamehededilaaW.PrintLast
/-- The pure statement of graftwood/graftwoodlaw15.ReachGoes. -/
def graftwoodlaw15_ReachGoes.Goal : Prop := ∀ (x0 : List Int), (x0.length ≤ maxLen ∧ ∀ y17, y17 ∈ x0 → (Lit.int .u16 y17).wf = true) → ∃ k, graftwoodlaw15_ReachGoes.f k x0 = some true
end Go.Proofs.Ytpiamehededilaa.P
