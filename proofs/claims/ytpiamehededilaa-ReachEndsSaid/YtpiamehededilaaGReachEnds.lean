import Derived.Test.YtpiamehededilaaP19
namespace Go.Proofs.Ytpiamehededilaa.P
open Go.RowKit Go.Proofs.YtpiamehededilaaW.PrintWords Go.Proofs.YtpiamehededilaaW.PrintLast
/-- The pure statement of graftwood/graftwoodlaw15.ReachEnds. -/
def graftwoodlaw15_ReachEnds.Goal : Prop := ∀ (x0 : List (S36)), (x0.length ≤ maxLen ∧ ∀ y9, y9 ∈ x0 → ((Lit.int .i64 y9.f0).wf = true ∧ (Lit.int .i64 y9.f1).wf = true ∧ (Lit.int .i64 y9.f2).wf = true)) → ∃ k, graftwoodlaw15_ReachEnds.f k x0 = some true
end Go.Proofs.Ytpiamehededilaa.P
