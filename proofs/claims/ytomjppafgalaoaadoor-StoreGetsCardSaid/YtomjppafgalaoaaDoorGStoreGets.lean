import Derived.Test.YtomjppafgalaoaaDoorP25
namespace Go.Proofs.YtomjppafgalaoaaDoor.P
open Go.RowKit Go.Proofs.YtomjppafgalaoaaDoorW.PrintWords Go.Proofs.YtomjppafgalaoaaDoorW.PrintLast
/-- The pure statement of graftwood/graftwoodlaw12.StoreGets. -/
def graftwoodlaw12_StoreGets.Goal : Prop := ∀ (x0 : S29), (((x0.f0.f0.length ≤ maxLen ∧ ∀ y2, y2 ∈ x0.f0.f0 → (y2.f0.size ≤ maxLen ∧ y2.f1.size ≤ maxLen)) ∧ (x0.f0.f1.length ≤ maxLen ∧ ∀ y1, y1 ∈ x0.f0.f1 → y1.size ≤ maxLen)) ∧ (x0.f1.f0.size ≤ maxLen ∧ x0.f1.f1.size ≤ maxLen) ∧ (x0.f2.f0.size ≤ maxLen ∧ x0.f2.f1.size ≤ maxLen) ∧ x0.f3.size ≤ maxLen) → ∃ k, graftwoodlaw12_StoreGets.f k x0.f0.f0 x0.f0.f1 x0.f1.f0 x0.f1.f1 x0.f2.f0 x0.f2.f1 x0.f3 = some true
end Go.Proofs.YtomjppafgalaoaaDoor.P
