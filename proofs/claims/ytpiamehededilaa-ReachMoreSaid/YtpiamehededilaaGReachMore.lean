import Derived.Test.YtpiamehededilaaP23
namespace Go.Proofs.Ytpiamehededilaa.P
open Go.RowKit Go.Proofs.YtpiamehededilaaW.PrintWords Go.Proofs.YtpiamehededilaaW.PrintLast
/-- The pure statement of graftwood/graftwoodlaw15.ReachMore. -/
def graftwoodlaw15_ReachMore.Goal : Prop := ∀ (x0 : S25) (x1 : Int) (x2 : Int), ((x0.f0.length ≤ maxLen ∧ ∀ y18, y18 ∈ x0.f0 → ((Lit.int .i64 y18.f0).wf = true ∧ (Lit.int .i64 y18.f1).wf = true ∧ (Lit.int .i64 y18.f2).wf = true)) ∧ (x0.f1.length ≤ maxLen ∧ ∀ y17, y17 ∈ x0.f1 → (Lit.int .i64 y17).wf = true)) → (Lit.int .i64 x1).wf = true → (Lit.int .i64 x2).wf = true → ∃ k, graftwoodlaw15_ReachMore.f k x0.f0 x0.f1 x1 x2 = some true
end Go.Proofs.Ytpiamehededilaa.P
