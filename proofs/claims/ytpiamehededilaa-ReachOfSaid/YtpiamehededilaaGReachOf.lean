import Derived.Test.YtpiamehededilaaP21
namespace Go.Proofs.Ytpiamehededilaa.P
open Go.RowKit Go.Proofs.YtpiamehededilaaW.PrintWords Go.Proofs.YtpiamehededilaaW.PrintLast
/-- The pure statement of graftwood/graftwoodlaw15.ReachOf. -/
def graftwoodlaw15_ReachOf.Goal : Prop := ∀ (x0 : List (S36)) (x1 : S25), (x0.length ≤ maxLen ∧ ∀ y11, y11 ∈ x0 → ((Lit.int .i64 y11.f0).wf = true ∧ (Lit.int .i64 y11.f1).wf = true ∧ (Lit.int .i64 y11.f2).wf = true)) → ((x1.f0.length ≤ maxLen ∧ ∀ y13, y13 ∈ x1.f0 → ((Lit.int .i64 y13.f0).wf = true ∧ (Lit.int .i64 y13.f1).wf = true ∧ (Lit.int .i64 y13.f2).wf = true)) ∧ (x1.f1.length ≤ maxLen ∧ ∀ y12, y12 ∈ x1.f1 → (Lit.int .i64 y12).wf = true)) → ∃ k, graftwoodlaw15_ReachOf.f k x0 x1.f0 x1.f1 = some true
end Go.Proofs.Ytpiamehededilaa.P
