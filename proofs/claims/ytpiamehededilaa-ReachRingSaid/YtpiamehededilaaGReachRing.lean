import Derived.Test.YtpiamehededilaaP24
namespace Go.Proofs.Ytpiamehededilaa.P
open Go.RowKit Go.Proofs.YtpiamehededilaaW.PrintWords Go.Proofs.YtpiamehededilaaW.PrintLast
/-- The pure statement of graftwood/graftwoodlaw15.ReachRing. -/
def graftwoodlaw15_ReachRing.Goal : Prop := ∀ (x0 : Int) (x1 : Int) (x2 : Int), (Lit.int .u8 x0).wf = true → (Lit.int .u8 x1).wf = true → (Lit.int .u8 x2).wf = true → ∃ k, graftwoodlaw15_ReachRing.f k x0 x1 x2 = some true
end Go.Proofs.Ytpiamehededilaa.P
