-- half the indentation
import Derived.Test.YtomjppafgalaoaaGreatDoorSqz
import Derived.Test.YtomjppafgalaoaaGreatDoorP0
import Derived.Test.YtomjppafgalaoaaGreatDoorP21
namespace Go.Proofs.YtomjppafgalaoaaGreatDoor.P
open Go.RowKit Go.Proofs.YtomjppafgalaoaaGreatDoorW.PrintWords Go.Proofs.YtomjppafgalaoaaGreatDoorW.PrintLast Go.Proofs.YtomjppafgalaoaaGreatDoorW.PrintMore
attribute [local go_sem] max2_int min2_int max_two min_two max_three min_three max_four min_four
set_option linter.unusedVariables false
set_option linter.unusedSimpArgs false
set_option maxHeartbeats 8000000
set_option maxRecDepth 100000

/-! ### store_Get: function 6 -/
def store_Get.f (k : Nat) (l0_0 : List (S27)) (l0_1 : List ByteArray) (a1_0 : ByteArray) (a1_1 : ByteArray) : Option (ByteArray × Int) := (store_find.f k l0_0 l0_1 a1_0 a1_1).bind fun bt255 => (if bt255.2.2 = 0 then (if bt255.2.1 = true then (if 0 ≤ bt255.1 then (if bt255.1 < (l0_1.length : Int) then (some (rdOf ByteArray.empty l0_1 bt255.1, 0)) else (none)) else (none)) else (some ((⟨#[]⟩ : ByteArray), 2))) else (some ((⟨#[]⟩ : ByteArray), bt255.2.2)))
theorem store_Get.mono : ∀ a0 a1 a2 a3 k, LeO (store_Get.f k a0 a1 a2 a3) (store_Get.f (k + 1) a0 a1 a2 a3) := by
 intro a0 a1 a2 a3 k
 unfold store_Get.f
 repeat' first | (with_reducible first | apply store_find.mono | apply LeO.refl | apply LeO.none | apply LeO.ite | refine LeO.bind ?_ (fun _ => ?_)) | apply store_find.mono | exact LeO.none _ | refine LeO.ite ?_ ?_ | refine LeO.bind ?_ (fun _ => ?_)
theorem store_Get.calls (k : Nat) (ah : Option Addr) (ai : Nat) (l0_0 : List (S27)) (aj : Option Addr) (ak : Nat) (l0_1 : List ByteArray) (a1_0 : ByteArray) (a1_1 : ByteArray) (r1 : ByteArray) (r2 : Int) (w : World) (hr0_0 : Kd.C k27 w ah l0_0.length l0_0) (hc0_0 : l0_0.length ≤ ai) (hr0_1 : Kd.C Kd.string w aj l0_1.length l0_1) (hc0_1 : l0_1.length ≤ ak) (h : store_Get.f k l0_0 l0_1 a1_0 a1_1 = some (r1, r2)) :
  Calls Tryz.prog 6 #[.agg #[.slice ah l0_0.length ai, .slice aj l0_1.length ak], .agg #[.string a1_0, .string a1_1]] w fun e w' => e = .returned (.tuple #[.string r1, .int .i64 r2]) ∧ Below w.heap.size w w' := by
 have hu25 := Tryz.underlying25
 have hu27 := Tryz.underlying27
 have ap := Aside0.mk hr0_0
 have aq := Aside0.mk hc0_0
 clear hr0_0 hc0_0
 have ao := Aside0.mk hr0_1
 have ar := Aside0.mk hc0_1
 clear hr0_1 hc0_1
 have HB := am (Below.refl w.heap.size w)
 unfold store_Get.f at h; have H := h; clear h
 replace H := bnd H; obtain ⟨⟨ae, ay, al⟩, A3, H⟩ := H
 (try dsimp only at H)
 replace H := ifP H; rcases H with ⟨c4, H⟩ | ⟨c4, H⟩
 ·have a7 := beq_iff_eq.mpr c4
  have a8 := bne_eq_false_iff_eq.mpr c4
  clear c4
  replace H := ifB H; rcases H with ⟨rfl, H⟩ | ⟨rfl, H⟩
  ·replace H := ifN H; obtain ⟨c6, H⟩ := H
   have bg := decide_eq_true c6
   clear c6
   replace H := ifN H; obtain ⟨c7, H⟩ := H
   have bh := decide_eq_true c7
   clear c7
   replace H := prB H; obtain ⟨rfl, rfl⟩ := H
   go_enter Tryz.func6, Tryz.ntmps6
   go_wp2_with (first | ((with_reducible refine gtD 2 ?_); refine xBx 2 25 #[.slice ah l0_0.length ai, .slice aj l0_1.length ak] ?_; intro af hg w8 hbox hb; have aa := am (hbox); have au := am ((gTx hg HB.out)); have av := am ((gTx hg HB.out)); replace HB := am (sTx HB.out hb); clear hb hbox hg) | ((with_reducible refine gtD 3 ?_); refine xBx 3 27 #[.string a1_0, .string a1_1] ?_; intro ag hg w9 hbox hb; have ab := am (hbox); have aw := am ((gTx hg HB.out)); have ax := am ((gTx hg HB.out)); have ac := am ((nT aa.out hg)); have ad := am ((mT aa.out hg)); replace aa := am (bB aa.out hb); replace HB := am (sTx HB.out hb); clear hb hbox hg; have a9 := ac.out; have a_ := ad.out; obtain ⟨az, aA, aB, aC⟩ := bxB aa; obtain ⟨aD, aE, aF, aG⟩ := bxB ab) | ((with_reducible refine gtC 21 ?_); refine xCb 12 Tryz.func21 (store_find.calls k _ _ l0_0 _ _ l0_1 a1_0 a1_1 ae true al _ (cW (Kd.C_below ap.out HB.out)) aq.out (cW (Kd.C_below ao.out HB.out)) ar.out A3.out) fun w13 hb => ?_; replace aa := am (bB aa.out hb); replace ab := am (bB ab.out hb); replace HB := am (sTx HB.out hb); obtain ⟨aH, aI, aJ, aK⟩ := bxB aa; have p258 : 0 ≤ (ae : Int) := of_decide_eq_true rfA; have q258 : ae < (l0_1.length : Int) := of_decide_eq_true rfA; obtain ⟨ad258, e258, an⟩ := Kd.at_string ao.out ae p258 q258; cases e258; replace an := (HB.out.cell (World.block_lt_of_cell? w _ an)).trans an; replace p258 := eq_true p258; replace q258 := eq_true q258))
   go_ret2
   exact ⟨rfF, eTx HB.out⟩
  ·replace H := prB H; obtain ⟨rfl, rfl⟩ := H
   go_enter Tryz.func6, Tryz.ntmps6
   go_wp2_with (first | ((with_reducible refine gtD 2 ?_); refine xBx 2 25 #[.slice ah l0_0.length ai, .slice aj l0_1.length ak] ?_; intro af hg w15 hbox hb; have aa := am (hbox); have au := am ((gTx hg HB.out)); have av := am ((gTx hg HB.out)); replace HB := am (sTx HB.out hb); clear hb hbox hg) | ((with_reducible refine gtD 3 ?_); refine xBx 3 27 #[.string a1_0, .string a1_1] ?_; intro ag hg w16 hbox hb; have ab := am (hbox); have aw := am ((gTx hg HB.out)); have ax := am ((gTx hg HB.out)); have ac := am ((nT aa.out hg)); have ad := am ((mT aa.out hg)); replace aa := am (bB aa.out hb); replace HB := am (sTx HB.out hb); clear hb hbox hg; have bb := ac.out; have bc := ad.out; obtain ⟨aL, aM, aN, aO⟩ := bxB aa; obtain ⟨aP, aQ, aR, aU⟩ := bxB ab) | ((with_reducible refine gtC 21 ?_); refine xCb 12 Tryz.func21 (store_find.calls k _ _ l0_0 _ _ l0_1 a1_0 a1_1 ae false al _ (cW (Kd.C_below ap.out HB.out)) aq.out (cW (Kd.C_below ao.out HB.out)) ar.out A3.out) fun w20 hb => ?_; replace aa := am (bB aa.out hb); replace ab := am (bB ab.out hb); replace HB := am (sTx HB.out hb)))
   go_ret2
   exact ⟨rfF, eTx HB.out⟩
 ·have a7 := beq_eq_false_iff_ne.mpr c4
  have a8 := bne_iff_ne.mpr c4
  replace H := prB H; obtain ⟨rfl, rfl⟩ := H
  go_enter Tryz.func6, Tryz.ntmps6
  go_wp2_with (first | ((with_reducible refine gtD 2 ?_); refine xBx 2 25 #[.slice ah l0_0.length ai, .slice aj l0_1.length ak] ?_; intro af hg w21 hbox hb; have aa := am (hbox); have au := am ((gTx hg HB.out)); have av := am ((gTx hg HB.out)); replace HB := am (sTx HB.out hb); clear hb hbox hg) | ((with_reducible refine gtD 3 ?_); refine xBx 3 27 #[.string a1_0, .string a1_1] ?_; intro ag hg w22 hbox hb; have ab := am (hbox); have aw := am ((gTx hg HB.out)); have ax := am ((gTx hg HB.out)); have ac := am ((nT aa.out hg)); have ad := am ((mT aa.out hg)); replace aa := am (bB aa.out hb); replace HB := am (sTx HB.out hb); clear hb hbox hg; have be := ac.out; have bf := ad.out; obtain ⟨aV, aW, aX, aY⟩ := bxB aa; obtain ⟨aZ, a4, a5, a6⟩ := bxB ab) | ((with_reducible refine gtC 21 ?_); refine xCb 12 Tryz.func21 (store_find.calls k _ _ l0_0 _ _ l0_1 a1_0 a1_1 ae ay al _ (cW (Kd.C_below ap.out HB.out)) aq.out (cW (Kd.C_below ao.out HB.out)) ar.out A3.out) fun w26 hb => ?_; replace aa := am (bB aa.out hb); replace ab := am (bB ab.out hb); replace HB := am (sTx HB.out hb)))
  go_ret2
  exact ⟨rfF, eTx HB.out⟩

end Go.Proofs.YtomjppafgalaoaaGreatDoor.P
