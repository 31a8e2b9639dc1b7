import Derived.Test.YtomjppafgalaoaaDoorP27
namespace Go.Proofs.YtomjppafgalaoaaDoor.P
open Go.RowKit Go.Proofs.YtomjppafgalaoaaDoorW.PrintWords Go.Proofs.YtomjppafgalaoaaDoorW.PrintLast
/-- The pure statement of graftwood/graftwoodlaw12.StoreEmpties. -/
def graftwoodlaw12_StoreEmpties.Goal : Prop := ∀ (x0 : S25) (x1 : Int), ((x0.f0.length ≤ maxLen ∧ ∀ y6, y6 ∈ x0.f0 → (y6.f0.size ≤ maxLen ∧ y6.f1.size ≤ maxLen)) ∧ (x0.f1.length ≤ maxLen ∧ ∀ y5, y5 ∈ x0.f1 → y5.size ≤ maxLen)) → (Lit.int .u8 x1).wf = true → ∃ k, graftwoodlaw12_StoreEmpties.f k x0.f0 x0.f1 x1 = some true
end Go.Proofs.YtomjppafgalaoaaDoor.P
