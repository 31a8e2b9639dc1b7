/-
  Plain lemmas for the longest printed texts: a region's places where orders meet, its goals in the order in which they are shown; rows read in a later world.
-/
import Derived.Test.YtknmfmedklfepaaGreatDoorThin
namespace Go.Proofs.YtknmfmedklfepaaGreatDoor.P
open Go.RowKit Go.Proofs.YtknmfmedklfepaaGreatDoorW.PrintWords Go.Proofs.YtknmfmedklfepaaGreatDoorW.PrintLast Go.Proofs.YtknmfmedklfepaaGreatDoorW.PrintMore
theorem cW {α : Type} {d : Kd α} {W W0 : World} [s : Sub_ W W0] {A : Option Addr} {n : Nat} {xs : List α} (h : d.C W0 A n xs) : d.C W A n xs := Kd.C_below h s.h
section
variable {P : Program} {ops : Array Oper} {Q : Exit → Act → World → Prop} {md : Region.Mode} {S : World → Prop} {ds : List Nat} {oi oj ok : Oper} {fuel : Nat} {l : Array Bool} {a : Act} {w : World} {T : Bool × List (List Nat × List Nat)}
theorem jT {σ : Type} (fuel' : Nat) (l' : Array Bool) (ns : σ → List (Tmp × Value)) (F : σ → World → Prop) (h : (∀ s w', F s w' → wpAnyLast P md ops Q S ds fuel' l' (putAll a (ns s)) w') → wpAnyLast P md ops Q S ds fuel l a w)
    (hcont : ∀ s w', F s w' → wpAnyLast P md ops Q S ds fuel' l' (putAll a (ns s)) w') : wpAnyLast P md ops Q S ds fuel l a w := join_ fuel' l' ns F hcont h
theorem dT (Ni Nj : Option Tmp) (i j : Nat) (li lj : Array Bool) (hT : rtab md ops = T)
    (h1 : ∀ K : Act → World → Prop, Shut (∀ a' w', S w' → (S w' → wpAnyLast P md ops Q S ds fuel li a' w') → K a' w') → if Region.wanted oi (yielded ops a.tmps) = true then Oper.wp P oi a w K Q else K (a.put Ni undef) w)
    (h2 : ∀ K : Act → World → Prop, Shut (∀ a' w', S w' → (S w' → wpAnyLast P md ops Q S ds fuel lj a' w') → K a' w') → if Region.wanted oj (yielded ops a.tmps) = true then Oper.wp P oj a w K Q else K (a.put Nj undef) w)
    (hi : ops[i]? = some oi := by rfl) (hj : ops[j]? = some oj := by rfl) (hNi : oi.dst = Ni := by rfl) (hNj : oj.dst = Nj := by rfl)
    (hc : (readyT T.2 l.toList == [i, j] && l.toList.set i true == li.toList && l.toList.set j true == lj.toList) = true := by kernel_rfl) (hdi : i ∉ ds := by decide) (hdj : j ∉ ds := by decide) : wpAnyLast P md ops Q S ds (fuel + 1) l a w :=
  two_ li lj hi hj hNi hNj (two_of hT hc) hdi hdj h1 h2
theorem eT3 (Ni Nj Nk : Option Tmp) (i j k : Nat) (li lj lk : Array Bool) (hT : rtab md ops = T)
    (h1 : ∀ K : Act → World → Prop, Shut (∀ a' w', S w' → (S w' → wpAnyLast P md ops Q S ds fuel li a' w') → K a' w') → if Region.wanted oi (yielded ops a.tmps) = true then Oper.wp P oi a w K Q else K (a.put Ni undef) w)
    (h2 : ∀ K : Act → World → Prop, Shut (∀ a' w', S w' → (S w' → wpAnyLast P md ops Q S ds fuel lj a' w') → K a' w') → if Region.wanted oj (yielded ops a.tmps) = true then Oper.wp P oj a w K Q else K (a.put Nj undef) w)
    (h3 : ∀ K : Act → World → Prop, Shut (∀ a' w', S w' → (S w' → wpAnyLast P md ops Q S ds fuel lk a' w') → K a' w') → if Region.wanted ok (yielded ops a.tmps) = true then Oper.wp P ok a w K Q else K (a.put Nk undef) w)
    (hi : ops[i]? = some oi := by rfl) (hj : ops[j]? = some oj := by rfl) (hk : ops[k]? = some ok := by rfl) (hNi : oi.dst = Ni := by rfl) (hNj : oj.dst = Nj := by rfl) (hNk : ok.dst = Nk := by rfl)
    (hc : (readyT T.2 l.toList == [i, j, k] && l.toList.set i true == li.toList && l.toList.set j true == lj.toList && l.toList.set k true == lk.toList) = true := by kernel_rfl) (hdi : i ∉ ds := by decide) (hdj : j ∉ ds := by decide) (hdk : k ∉ ds := by decide) : wpAnyLast P md ops Q S ds (fuel + 1) l a w :=
  three_ li lj lk hi hj hk hNi hNj hNk (three_of hT hc) hdi hdj hdk h1 h2 h3
end
end Go.Proofs.YtknmfmedklfepaaGreatDoor.P
