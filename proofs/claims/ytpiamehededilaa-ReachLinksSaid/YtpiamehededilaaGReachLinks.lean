import Derived.Test.YtpiamehededilaaP15
namespace Go.Proofs.Ytpiamehededilaa.P
open Go.RowKit Go.Proofs.YtpiamehededilaaW.PrintWords Go.Proofs.YtpiamehededilaaW.PrintLast
/-- The pure statement of graftwood/graftwoodlaw15.ReachLinks. -/
def graftwoodlaw15_ReachLinks.Goal : Prop := ∀ (x0 : S25) (x1 : Int) (x2 : Int), ((x0.f0.length ≤ maxLen ∧ ∀ y2, y2 ∈ x0.f0 → ((Lit.int .i64 y2.f0).wf = true ∧ (Lit.int .i64 y2.f1).wf = true ∧ (Lit.int .i64 y2.f2).wf = true)) ∧ (x0.f1.length ≤ maxLen ∧ ∀ y1, y1 ∈ x0.f1 → (Lit.int .i64 y1).wf = true)) → (Lit.int .i64 x1).wf = true → (Lit.int .i64 x2).wf = true → ∃ k, graftwoodlaw15_ReachLinks.f k x0.f0 x0.f1 x1 x2 = some true
end Go.Proofs.Ytpiamehededilaa.P
