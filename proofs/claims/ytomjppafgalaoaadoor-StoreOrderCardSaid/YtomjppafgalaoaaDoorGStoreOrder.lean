import Derived.Test.YtomjppafgalaoaaDoorP28
namespace Go.Proofs.YtomjppafgalaoaaDoor.P
open Go.RowKit Go.Proofs.YtomjppafgalaoaaDoorW.PrintWords Go.Proofs.YtomjppafgalaoaaDoorW.PrintLast
/-- The pure statement of graftwood/graftwoodlaw12.StoreOrder. -/
def graftwoodlaw12_StoreOrder.Goal : Prop := ∀ (x0 : S25) (x1 : S27) (x2 : S27), ((x0.f0.length ≤ maxLen ∧ ∀ y10, y10 ∈ x0.f0 → (y10.f0.size ≤ maxLen ∧ y10.f1.size ≤ maxLen)) ∧ (x0.f1.length ≤ maxLen ∧ ∀ y9, y9 ∈ x0.f1 → y9.size ≤ maxLen)) → (x1.f0.size ≤ maxLen ∧ x1.f1.size ≤ maxLen) → (x2.f0.size ≤ maxLen ∧ x2.f1.size ≤ maxLen) → ∃ k, graftwoodlaw12_StoreOrder.f k x0.f0 x0.f1 x1.f0 x1.f1 x2.f0 x2.f1 = some true
end Go.Proofs.YtomjppafgalaoaaDoor.P
