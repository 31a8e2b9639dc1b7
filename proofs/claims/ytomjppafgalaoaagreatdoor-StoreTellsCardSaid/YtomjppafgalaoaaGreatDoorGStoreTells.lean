import Derived.Test.YtomjppafgalaoaaGreatDoorP38
namespace Go.Proofs.YtomjppafgalaoaaGreatDoor.P
open Go.RowKit Go.Proofs.YtomjppafgalaoaaGreatDoorW.PrintWords Go.Proofs.YtomjppafgalaoaaGreatDoorW.PrintLast
/-- The pure statement of graftwood/graftwoodlaw12.StoreTells. -/
def graftwoodlaw12_StoreTells.Goal : Prop := ∀ (x0 : S25) (x1 : S27) (x2 : ByteArray), ((x0.f0.length ≤ maxLen ∧ ∀ y2, y2 ∈ x0.f0 → (y2.f0.size ≤ maxLen ∧ y2.f1.size ≤ maxLen)) ∧ (x0.f1.length ≤ maxLen ∧ ∀ y1, y1 ∈ x0.f1 → y1.size ≤ maxLen)) → (x1.f0.size ≤ maxLen ∧ x1.f1.size ≤ maxLen) → x2.size ≤ maxLen → ∃ k, graftwoodlaw12_StoreTells.f k x0.f0 x0.f1 x1.f0 x1.f1 x2 = some true
end Go.Proofs.YtomjppafgalaoaaGreatDoor.P
