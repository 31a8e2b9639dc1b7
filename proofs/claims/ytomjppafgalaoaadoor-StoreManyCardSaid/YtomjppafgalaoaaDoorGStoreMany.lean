import Derived.Test.YtomjppafgalaoaaDoorP25
namespace Go.Proofs.YtomjppafgalaoaaDoor.P
open Go.RowKit Go.Proofs.YtomjppafgalaoaaDoorW.PrintWords Go.Proofs.YtomjppafgalaoaaDoorW.PrintLast
/-- The pure statement of graftwood/graftwoodlaw12.StoreMany. -/
def graftwoodlaw12_StoreMany.Goal : Prop := ∀ (x0 : S25) (x1 : S27) (x2 : ByteArray), ((x0.f0.length ≤ maxLen ∧ ∀ y2, y2 ∈ x0.f0 → (y2.f0.size ≤ maxLen ∧ y2.f1.size ≤ maxLen)) ∧ (x0.f1.length ≤ maxLen ∧ ∀ y1, y1 ∈ x0.f1 → y1.size ≤ maxLen)) → (x1.f0.size ≤ maxLen ∧ x1.f1.size ≤ maxLen) → x2.size ≤ maxLen → ∃ k, graftwoodlaw12_StoreMany.f k x0.f0 x0.f1 x1.f0 x1.f1 x2 = some true
end Go.Proofs.YtomjppafgalaoaaDoor.P
