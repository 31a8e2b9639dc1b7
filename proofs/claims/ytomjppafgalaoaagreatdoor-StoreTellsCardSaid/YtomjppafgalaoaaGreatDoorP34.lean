-- half the indentation
import Derived.Test.YtomjppafgalaoaaGreatDoorSqz
import Derived.Test.YtomjppafgalaoaaGreatDoorP0
import Derived.Test.YtomjppafgalaoaaGreatDoorP32
import Derived.Test.YtomjppafgalaoaaGreatDoorP33
namespace Go.Proofs.YtomjppafgalaoaaGreatDoor.P
open Go.RowKit Go.Proofs.YtomjppafgalaoaaGreatDoorW.PrintWords Go.Proofs.YtomjppafgalaoaaGreatDoorW.PrintLast Go.Proofs.YtomjppafgalaoaaGreatDoorW.PrintMore
attribute [local go_sem] max2_int min2_int max_two min_two max_three min_three max_four min_four
set_option linter.unusedVariables false
set_option linter.unusedSimpArgs false
set_option maxHeartbeats 8000000
set_option maxRecDepth 100000

/-! ### graftwoodref12_Same: function 12 -/
def graftwoodref12_Same.f (k : Nat) (l0_0 : List (S27)) (l0_1 : List ByteArray) (l1_0 : List (S27)) (l1_1 : List ByteArray) : Option (Bool) := (graftwoodref05_Same.f k l0_0 l1_0).bind fun al => (if al = true then ((graftwoodref01_Same.f k l0_1 l1_1).bind fun ae => (some ae)) else (some false))
theorem graftwoodref12_Same.mono : ∀ a0 a1 a2 a3 k, LeO (graftwoodref12_Same.f k a0 a1 a2 a3) (graftwoodref12_Same.f (k + 1) a0 a1 a2 a3) := by
 intro a0 a1 a2 a3 k
 unfold graftwoodref12_Same.f
 repeat' first | (with_reducible first | apply graftwoodref01_Same.mono | apply graftwoodref05_Same.mono | apply LeO.refl | apply LeO.none | apply LeO.ite | refine LeO.bind ?_ (fun _ => ?_)) | apply graftwoodref01_Same.mono | apply graftwoodref05_Same.mono | exact LeO.none _ | refine LeO.ite ?_ ?_ | refine LeO.bind ?_ (fun _ => ?_)
theorem graftwoodref12_Same.calls (k : Nat) (af : Option Addr) (ag : Nat) (l0_0 : List (S27)) (an : Option Addr) (ao : Nat) (l0_1 : List ByteArray) (ah : Option Addr) (ai : Nat) (l1_0 : List (S27)) (ap : Option Addr) (aq : Nat) (l1_1 : List ByteArray) (r : Bool) (w : World) (hr0_0 : Kd.C k27 w af l0_0.length l0_0) (hc0_0 : l0_0.length ≤ ag) (hr0_1 : Kd.C Kd.string w an l0_1.length l0_1) (hc0_1 : l0_1.length ≤ ao) (hr1_0 : Kd.C k27 w ah l1_0.length l1_0) (hc1_0 : l1_0.length ≤ ai) (hr1_1 : Kd.C Kd.string w ap l1_1.length l1_1) (hc1_1 : l1_1.length ≤ aq) (h : graftwoodref12_Same.f k l0_0 l0_1 l1_0 l1_1 = some r) :
  Calls Tryz.prog 12 #[.agg #[.slice af l0_0.length ag, .slice an l0_1.length ao], .agg #[.slice ah l1_0.length ai, .slice ap l1_1.length aq]] w fun e w' => e = .returned (.bool r) ∧ Below w.heap.size w w' := by
 have hu25 := Tryz.underlying25
 have ar := Aside0.mk hr0_0
 have au := Aside0.mk hc0_0
 clear hr0_0 hc0_0
 have ax := Aside0.mk hr0_1
 have ay := Aside0.mk hc0_1
 clear hr0_1 hc0_1
 have av := Aside0.mk hr1_0
 have aw := Aside0.mk hc1_0
 clear hr1_0 hc1_0
 have az := Aside0.mk hr1_1
 have aA := Aside0.mk hc1_1
 clear hr1_1 hc1_1
 have HB := am (Below.refl w.heap.size w)
 unfold graftwoodref12_Same.f at h; have H := h; clear h
 replace H := bnd H; obtain ⟨al, A3, H⟩ := H
 replace H := ifB H; rcases H with ⟨rfl, H⟩ | ⟨rfl, H⟩
 ·replace H := bnd H; obtain ⟨ae, A5, H⟩ := H
  obtain rfl := smI H
  go_enter Tryz.func12, Tryz.ntmps12
  go_wp2_with (first | ((with_reducible refine gtD 2 ?_); refine xBx 2 25 #[.slice af l0_0.length ag, .slice an l0_1.length ao] ?_; intro aj hg w6 hbox hb; have aa := am (hbox); have aB := am ((gTx hg HB.out)); have aC := am ((gTx hg HB.out)); replace HB := am (sTx HB.out hb); clear hb hbox hg) | ((with_reducible refine gtD 3 ?_); refine xBx 3 25 #[.slice ah l1_0.length ai, .slice ap l1_1.length aq] ?_; intro ak hg w7 hbox hb; have ab := am (hbox); have aD := am ((gTx hg HB.out)); have aE := am ((gTx hg HB.out)); have ac := am ((nT aa.out hg)); have ad := am ((mT aa.out hg)); replace aa := am (bB aa.out hb); replace HB := am (sTx HB.out hb); clear hb hbox hg; have aZ := ac.out; have a4 := ad.out; obtain ⟨aR, aU, aV, aW⟩ := bxB aa; obtain ⟨aF, aG, aH, aI⟩ := bxB ab) | ((with_reducible refine gtC 31 ?_); refine xCz 9 Tryz.func31 (graftwoodref05_Same.calls k _ _ l0_0 _ _ l1_0 true _ (cW (Kd.C_below ar.out HB.out)) au.out (cW (Kd.C_below av.out HB.out)) aw.out A3.out) fun nd => ?_) | (go_at_call 32; (with_reducible refine (graftwoodref01_Same.calls k _ _ l0_1 _ _ l1_1 ae _ (cW (Kd.C_below ax.out (eTx HB.out))) ay.out (cW (Kd.C_below az.out (eTx HB.out))) aA.out A5.out).mono ?_); rintro e w' ⟨rfl, ⟨nd, rfl⟩⟩))
  go_ret
  exact ⟨rfF, eTx HB.out⟩
 ·obtain rfl := smI H
  go_enter Tryz.func12, Tryz.ntmps12
  go_wp2_with (first | ((with_reducible refine gtD 2 ?_); refine xBx 2 25 #[.slice af l0_0.length ag, .slice an l0_1.length ao] ?_; intro aj hg w11 hbox hb; have aa := am (hbox); have aB := am ((gTx hg HB.out)); have aC := am ((gTx hg HB.out)); replace HB := am (sTx HB.out hb); clear hb hbox hg) | ((with_reducible refine gtD 3 ?_); refine xBx 3 25 #[.slice ah l1_0.length ai, .slice ap l1_1.length aq] ?_; intro ak hg w12 hbox hb; have ab := am (hbox); have aD := am ((gTx hg HB.out)); have aE := am ((gTx hg HB.out)); have ac := am ((nT aa.out hg)); have ad := am ((mT aa.out hg)); replace aa := am (bB aa.out hb); replace HB := am (sTx HB.out hb); clear hb hbox hg; have aX := ac.out; have aY := ad.out; obtain ⟨aJ, aK, aL, aM⟩ := bxB aa; obtain ⟨aN, aO, aP, aQ⟩ := bxB ab) | ((with_reducible refine gtC 31 ?_); refine xCz 9 Tryz.func31 (graftwoodref05_Same.calls k _ _ l0_0 _ _ l1_0 false _ (cW (Kd.C_below ar.out HB.out)) au.out (cW (Kd.C_below av.out HB.out)) aw.out A3.out) fun nd => ?_))
  go_ret
  exact ⟨rfF, eTx HB.out⟩

end Go.Proofs.YtomjppafgalaoaaGreatDoor.P
