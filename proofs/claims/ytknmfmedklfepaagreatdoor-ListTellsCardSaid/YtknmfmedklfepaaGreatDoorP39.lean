-- half the indentation
import Derived.Test.YtknmfmedklfepaaGreatDoorSqz
import Derived.Test.YtknmfmedklfepaaGreatDoorP0
import Derived.Test.YtknmfmedklfepaaGreatDoorP4
import Derived.Test.YtknmfmedklfepaaGreatDoorP23
import Derived.Test.YtknmfmedklfepaaGreatDoorP24
import Derived.Test.YtknmfmedklfepaaGreatDoorP25
import Derived.Test.YtknmfmedklfepaaGreatDoorP30
import Derived.Test.YtknmfmedklfepaaGreatDoorP34
import Derived.Test.YtknmfmedklfepaaGreatDoorP35
import Derived.Test.YtknmfmedklfepaaGreatDoorP37
import Derived.Test.YtknmfmedklfepaaGreatDoorP38
namespace Go.Proofs.YtknmfmedklfepaaGreatDoor.P
open Go.RowKit Go.Proofs.YtknmfmedklfepaaGreatDoorW.PrintWords Go.Proofs.YtknmfmedklfepaaGreatDoorW.PrintLast Go.Proofs.YtknmfmedklfepaaGreatDoorW.PrintMore
attribute [local go_sem] max2_int min2_int max_two min_two max_three min_three max_four min_four
set_option linter.unusedVariables false
set_option linter.unusedSimpArgs false
set_option maxHeartbeats 8000000
set_option maxRecDepth 100000

/-! ### graftwoodlaw17_ListTells: function 3 -/
mutual
def graftwoodlaw17_ListTells.j0 : Nat → List (S55) → ByteArray → ByteArray → Int → Bool → Option (Bool)
 | 0, _, _, _, _, _ => none
 | k + 1, x0, x2, x9, x10, x61 => if x61 = true then (some false) else ((graftwoodref17_May.f k x0).bind fun aH => (if aH = true then ((graftwoodref04_May.f k x2).bind fun az => (graftwoodlaw17_ListTells.j1 k x0 x2 x9 x10 (!az))) else (graftwoodlaw17_ListTells.j1 k x0 x2 x9 x10 true)))
def graftwoodlaw17_ListTells.j1 : Nat → List (S55) → ByteArray → ByteArray → Int → Bool → Option (Bool)
 | 0, _, _, _, _, _ => none
 | k + 1, x0, x2, x9, x10, x69 => if x69 = true then (if x9.toList = ([] : List UInt8) then (if x10 = 1 then ((graftwoodlaw17_awake.f k).bind fun aI => (some aI)) else (some false)) else (some false)) else ((graftwoodref17_Pick.f k x0 x2).bind fun av => (if x9.toList = av.toList then (if av.toList = ([] : List UInt8) then (if x10 = 2 then ((graftwoodlaw17_awake.f k).bind fun aF => (some aF)) else (some false)) else (if x10 = 0 then ((graftwoodlaw17_awake.f k).bind fun aG => (some aG)) else (some false))) else (some false)))
end
def graftwoodlaw17_ListTells.f (k : Nat) (l0 : List (S55)) (l1 : List (S63)) (a2 : ByteArray) : Option (Bool) := (graftwoodlaw05_Few.f k l0).bind fun aa => ((graftwoodlaw16_Few.f k l1).bind fun ah => ((graftwoodlaw01_Few.f a2).bind fun ab => ((list_Build.f k ah).bind fun bt467 => ((list_Pick.f k aa ab).bind fun bt471 => ((list_Check.f k aa).bind fun aq => ((graftwoodref17_May.f k aa).bind fun ap => (if ((aq == 0) != ap) = true then (some false) else ((graftwoodref16_May.f k ah).bind fun aw => (if aw = true then ((graftwoodref17_Build.f k ah).bind fun al => ((graftwoodref05_Same.f k bt467.1 al).bind fun ar => (if ar = true then (if bt467.2 = 0 then ((graftwoodref16_May.f k ah).bind fun an => (if an = true then (graftwoodlaw17_ListTells.j0 k aa ab bt471.1 bt471.2 false) else (if (bt467.1.length : Int) > 0 then (graftwoodlaw17_ListTells.j0 k aa ab bt471.1 bt471.2 true) else (graftwoodlaw17_ListTells.j0 k aa ab bt471.1 bt471.2 (bt467.2 != 1))))) else (graftwoodlaw17_ListTells.j0 k aa ab bt471.1 bt471.2 true)) else (graftwoodlaw17_ListTells.j0 k aa ab bt471.1 bt471.2 true)))) else ((graftwoodref16_May.f k ah).bind fun au => (if au = true then (graftwoodlaw17_ListTells.j0 k aa ab bt471.1 bt471.2 false) else (if (bt467.1.length : Int) > 0 then (graftwoodlaw17_ListTells.j0 k aa ab bt471.1 bt471.2 true) else (graftwoodlaw17_ListTells.j0 k aa ab bt471.1 bt471.2 (bt467.2 != 1))))))))))))))
theorem graftwoodlaw17_ListTells.mono_l : ∀ k, (∀ y0 y1 y2 y3 y4, LeO (graftwoodlaw17_ListTells.j0 k y0 y1 y2 y3 y4) (graftwoodlaw17_ListTells.j0 (k + 1) y0 y1 y2 y3 y4)) ∧ (∀ y0 y1 y2 y3 y4, LeO (graftwoodlaw17_ListTells.j1 k y0 y1 y2 y3 y4) (graftwoodlaw17_ListTells.j1 (k + 1) y0 y1 y2 y3 y4))
 | 0 => ⟨fun _ _ _ _ _ r h => by simp [graftwoodlaw17_ListTells.j0] at h, fun _ _ _ _ _ r h => by simp [graftwoodlaw17_ListTells.j1] at h⟩
 | k + 1 => by
  obtain ⟨ih0, ih1⟩ := graftwoodlaw17_ListTells.mono_l k
  refine ⟨?_, ?_⟩
  ·intro y0 y1 y2 y3 y4
   unfold graftwoodlaw17_ListTells.j0
   repeat' first | (with_reducible first | apply ih0 | apply ih1 | apply graftwoodlaw05_Few.mono | apply graftwoodlaw16_Few.mono | apply graftwoodlaw17_awake.mono | apply graftwoodref04_May.mono | apply graftwoodref05_Same.mono | apply graftwoodref16_May.mono | apply graftwoodref17_Build.mono | apply graftwoodref17_May.mono | apply graftwoodref17_Pick.mono | apply list_Build.mono | apply list_Check.mono | apply list_Pick.mono | apply LeO.refl | apply LeO.none | apply LeO.ite | refine LeO.bind ?_ (fun _ => ?_)) | apply ih0 | apply ih1 | apply graftwoodlaw05_Few.mono | apply graftwoodlaw16_Few.mono | apply graftwoodlaw17_awake.mono | apply graftwoodref04_May.mono | apply graftwoodref05_Same.mono | apply graftwoodref16_May.mono | apply graftwoodref17_Build.mono | apply graftwoodref17_May.mono | apply graftwoodref17_Pick.mono | apply list_Build.mono | apply list_Check.mono | apply list_Pick.mono | exact LeO.none _ | refine LeO.ite ?_ ?_ | refine LeO.bind ?_ (fun _ => ?_)
  ·intro y0 y1 y2 y3 y4
   unfold graftwoodlaw17_ListTells.j1
   repeat' first | (with_reducible first | apply ih0 | apply ih1 | apply graftwoodlaw05_Few.mono | apply graftwoodlaw16_Few.mono | apply graftwoodlaw17_awake.mono | apply graftwoodref04_May.mono | apply graftwoodref05_Same.mono | apply graftwoodref16_May.mono | apply graftwoodref17_Build.mono | apply graftwoodref17_May.mono | apply graftwoodref17_Pick.mono | apply list_Build.mono | apply list_Check.mono | apply list_Pick.mono | apply LeO.refl | apply LeO.none | apply LeO.ite | refine LeO.bind ?_ (fun _ => ?_)) | apply ih0 | apply ih1 | apply graftwoodlaw05_Few.mono | apply graftwoodlaw16_Few.mono | apply graftwoodlaw17_awake.mono | apply graftwoodref04_May.mono | apply graftwoodref05_Same.mono | apply graftwoodref16_May.mono | apply graftwoodref17_Build.mono | apply graftwoodref17_May.mono | apply graftwoodref17_Pick.mono | apply list_Build.mono | apply list_Check.mono | apply list_Pick.mono | exact LeO.none _ | refine LeO.ite ?_ ?_ | refine LeO.bind ?_ (fun _ => ?_)
theorem graftwoodlaw17_ListTells.mono : ∀ a0 a1 a2 k, LeO (graftwoodlaw17_ListTells.f k a0 a1 a2) (graftwoodlaw17_ListTells.f (k + 1) a0 a1 a2) := by
 intro a0 a1 a2 k
 obtain ⟨ih0, ih1⟩ := graftwoodlaw17_ListTells.mono_l k
 unfold graftwoodlaw17_ListTells.f
 repeat' first | (with_reducible first | apply ih0 | apply ih1 | apply graftwoodlaw05_Few.mono | apply graftwoodlaw16_Few.mono | apply graftwoodlaw17_awake.mono | apply graftwoodref04_May.mono | apply graftwoodref05_Same.mono | apply graftwoodref16_May.mono | apply graftwoodref17_Build.mono | apply graftwoodref17_May.mono | apply graftwoodref17_Pick.mono | apply list_Build.mono | apply list_Check.mono | apply list_Pick.mono | apply LeO.refl | apply LeO.none | apply LeO.ite | refine LeO.bind ?_ (fun _ => ?_)) | apply ih0 | apply ih1 | apply graftwoodlaw05_Few.mono | apply graftwoodlaw16_Few.mono | apply graftwoodlaw17_awake.mono | apply graftwoodref04_May.mono | apply graftwoodref05_Same.mono | apply graftwoodref16_May.mono | apply graftwoodref17_Build.mono | apply graftwoodref17_May.mono | apply graftwoodref17_Pick.mono | apply list_Build.mono | apply list_Check.mono | apply list_Pick.mono | exact LeO.none _ | refine LeO.ite ?_ ?_ | refine LeO.bind ?_ (fun _ => ?_)
theorem graftwoodlaw17_ListTells.calls (k : Nat) (A0 : Option Addr) (c0 : Nat) (l0 : List (S55)) (A1 : Option Addr) (c1 : Nat) (l1 : List (S63)) (a2 : ByteArray) (r : Bool) (w : World) (hr0 : Kd.C k55 w A0 l0.length l0) (hc0 : l0.length ≤ c0) (hr1 : Kd.C k63 w A1 l1.length l1) (hc1 : l1.length ≤ c1) (h : graftwoodlaw17_ListTells.f k l0 l1 a2 = some r) :
  Calls Tryz.prog 3 #[.slice A0 l0.length c0, .slice A1 l1.length c1, .string a2] w fun e w' => e = .returned (.bool r) ∧ Below w.heap.size w w' := by
 have HR0 := Aside0.mk hr0
 have HC0 := Aside0.mk hc0
 clear hr0 hc0
 have HR1 := Aside0.mk hr1
 have HC1 := Aside0.mk hc1
 clear hr1 hc1
 have HB := am (Below.refl w.heap.size w)
 unfold graftwoodlaw17_ListTells.f at h; have H := h; clear h
 replace H := bnd H; obtain ⟨aa, A4, H⟩ := H
 replace H := bnd H; obtain ⟨ah, A5, H⟩ := H
 replace H := bnd H; obtain ⟨ab, A6, H⟩ := H
 replace H := bnd H; obtain ⟨⟨ai, ak⟩, A7, H⟩ := H
 (try dsimp only at H)
 replace H := bnd H; obtain ⟨⟨ag, af⟩, A8, H⟩ := H
 (try dsimp only at H)
 replace H := bnd H; obtain ⟨aq, A9, H⟩ := H
 replace H := bnd H; obtain ⟨ap, A10, H⟩ := H
 replace H := ifP H; rcases H with ⟨c11, H⟩ | ⟨c11, H⟩
 ·have aJ := c11
  (try (have aK : decide ((aq == 0) = ap) = false := by simpa using c11))
  (try (have aL : ((aq == 0) == ap) = false := by simpa using c11))
  (try (have bQ : ¬ ((aq == 0) = ap) := by simpa using c11))
  clear c11
  obtain rfl := smI H
  go_enter Tryz.func3, Tryz.ntmps3
  go_wp2_with (first | ((with_reducible refine gtC 7 ?_); refine xCl 13 Tryz.func7 (graftwoodlaw05_Few.calls k _ _ l0 aa _ (cW (HR0.out)) HC0.out A4.out) ?_; rintro e w12 ⟨bs, rfl, ho0, hb⟩; refine ⟨_, rfl, ?_⟩; have ad := am (Kd.R_lower ho0 (below_size (eTx HB.out))); replace HB := am (sTx HB.out hb)) | ((with_reducible refine gtC 8 ?_); refine xCl 15 Tryz.func8 (graftwoodlaw16_Few.calls k _ _ l1 ah _ (cW (Kd.C_below HR1.out HB.out)) HC1.out A5.out) ?_; rintro e w13 ⟨bt, rfl, ho0, hb⟩; refine ⟨_, rfl, ?_⟩; replace ad := am (rB ad.out hb); have ac := am (Kd.S_lower ho0 (below_size (eTx HB.out))); replace HB := am (sTx HB.out hb)) | ((with_reducible refine gtC 9 ?_); refine xCz 17 Tryz.func9 (graftwoodlaw01_Few.calls a2 ab _ A6.out) fun nd => ?_; obtain ⟨bu, bv, bw⟩ := Kd.S_slice ac.out; subst bw) | ((with_reducible refine gtC 10 ?_); refine xCl 20 Tryz.func10 (list_Build.calls k _ _ ah ai ak _ (cW (Kd.S_reads' ac.out).2.2) ((Kd.S_reads' ac.out).2.1) A7.out) ?_; rintro e w15 ⟨bx, rfl, ho0, hb⟩; refine ⟨_, rfl, ?_⟩; replace ac := am (Kd.S_below (by (with_reducible repeat (first | apply Kd.S_alloc | apply Kd.S_drewN | apply Kd.S_drew)); exact ac.out) hb); have ae := am (Kd.R_lower (Kd.R_new' ho0 (Kd.R_lt (rT ad.out))) (below_size (eTx HB.out))); replace ad := am (Kd.R_elder' (rT ad.out) (Kd.R_base ho0) hb); replace HB := am (sTx HB.out hb); obtain ⟨aU, aV, bz⟩ := Kd.R_slice ad.out; subst bz) | ((with_reducible refine gtC 11 ?_); refine xCb 26 Tryz.func11 (list_Pick.calls k _ _ aa ab ag af _ (cW (Kd.R_reads' ad.out).2.2) ((Kd.R_reads' ad.out).2.1) A8.out) fun w17 hb => ?_; replace ad := am (rB ad.out hb); replace ac := am (Kd.S_below (by (with_reducible repeat (first | apply Kd.S_alloc | apply Kd.S_drewN | apply Kd.S_drew)); exact ac.out) hb); replace ae := am (rB ae.out hb); replace HB := am (sTx HB.out hb)) | ((with_reducible refine gtC 12 ?_); refine xCb 30 Tryz.func12 (list_Check.calls k _ _ aa aq _ (cW (Kd.R_reads' ad.out).2.2) ((Kd.R_reads' ad.out).2.1) A9.out) fun w18 hb => ?_; replace ad := am (rB ad.out hb); replace ac := am (Kd.S_below (by (with_reducible repeat (first | apply Kd.S_alloc | apply Kd.S_drewN | apply Kd.S_drew)); exact ac.out) hb); replace ae := am (rB ae.out hb); replace HB := am (sTx HB.out hb)) | ((with_reducible refine gtC 13 ?_); refine xCb 33 Tryz.func13 (graftwoodref17_May.calls k _ _ aa ap _ (cW (Kd.R_reads' ad.out).2.2) ((Kd.R_reads' ad.out).2.1) A10.out) fun w19 hb => ?_; replace ad := am (rB ad.out hb); replace ac := am (Kd.S_below (by (with_reducible repeat (first | apply Kd.S_alloc | apply Kd.S_drewN | apply Kd.S_drew)); exact ac.out) hb); replace ae := am (rB ae.out hb); replace HB := am (sTx HB.out hb)))
  go_ret
  exact ⟨rfF, eTx HB.out⟩
 ·have aJ := Bool.eq_false_iff.mpr c11
  (try (have aK : decide ((aq == 0) = ap) = true := by simpa using c11))
  (try (have aL : ((aq == 0) == ap) = true := by simpa using c11))
  clear c11
  have aW := Aside0.mk H
  clear H
  go_enter Tryz.func3, Tryz.ntmps3
  go_upto_region 6 with (first | ((with_reducible refine gtC 7 ?_); refine xCl 13 Tryz.func7 (graftwoodlaw05_Few.calls k _ _ l0 aa _ (cW (HR0.out)) HC0.out A4.out) ?_; rintro e w21 ⟨bs, rfl, ho0, hb⟩; refine ⟨_, rfl, ?_⟩; have ad := am (Kd.R_lower ho0 (below_size (eTx HB.out))); replace HB := am (sTx HB.out hb)) | ((with_reducible refine gtC 8 ?_); refine xCl 15 Tryz.func8 (graftwoodlaw16_Few.calls k _ _ l1 ah _ (cW (Kd.C_below HR1.out HB.out)) HC1.out A5.out) ?_; rintro e w22 ⟨bt, rfl, ho0, hb⟩; refine ⟨_, rfl, ?_⟩; replace ad := am (rB ad.out hb); have ac := am (Kd.S_lower ho0 (below_size (eTx HB.out))); replace HB := am (sTx HB.out hb)) | ((with_reducible refine gtC 9 ?_); refine xCz 17 Tryz.func9 (graftwoodlaw01_Few.calls a2 ab _ A6.out) fun nd => ?_; obtain ⟨aB, aC, bC⟩ := Kd.S_slice ac.out; subst bC) | ((with_reducible refine gtC 10 ?_); refine xCl 20 Tryz.func10 (list_Build.calls k _ _ ah ai ak _ (cW (Kd.S_reads' ac.out).2.2) ((Kd.S_reads' ac.out).2.1) A7.out) ?_; rintro e w24 ⟨bx, rfl, ho0, hb⟩; refine ⟨_, rfl, ?_⟩; replace ac := am (Kd.S_below (by (with_reducible repeat (first | apply Kd.S_alloc | apply Kd.S_drewN | apply Kd.S_drew)); exact ac.out) hb); have ae := am (Kd.R_lower (Kd.R_new' ho0 (Kd.R_lt (rT ad.out))) (below_size (eTx HB.out))); replace ad := am (Kd.R_elder' (rT ad.out) (Kd.R_base ho0) hb); replace HB := am (sTx HB.out hb); obtain ⟨ax, ay, bD⟩ := Kd.R_slice ad.out; subst bD) | ((with_reducible refine gtC 11 ?_); refine xCb 26 Tryz.func11 (list_Pick.calls k _ _ aa ab ag af _ (cW (Kd.R_reads' ad.out).2.2) ((Kd.R_reads' ad.out).2.1) A8.out) fun w26 hb => ?_; replace ad := am (rB ad.out hb); replace ac := am (Kd.S_below (by (with_reducible repeat (first | apply Kd.S_alloc | apply Kd.S_drewN | apply Kd.S_drew)); exact ac.out) hb); replace ae := am (rB ae.out hb); replace HB := am (sTx HB.out hb)) | ((with_reducible refine gtC 12 ?_); refine xCb 30 Tryz.func12 (list_Check.calls k _ _ aa aq _ (cW (Kd.R_reads' ad.out).2.2) ((Kd.R_reads' ad.out).2.1) A9.out) fun w27 hb => ?_; replace ad := am (rB ad.out hb); replace ac := am (Kd.S_below (by (with_reducible repeat (first | apply Kd.S_alloc | apply Kd.S_drewN | apply Kd.S_drew)); exact ac.out) hb); replace ae := am (rB ae.out hb); replace HB := am (sTx HB.out hb)) | ((with_reducible refine gtC 13 ?_); refine xCb 33 Tryz.func13 (graftwoodref17_May.calls k _ _ aa ap _ (cW (Kd.R_reads' ad.out).2.2) ((Kd.R_reads' ad.out).2.1) A10.out) fun w28 hb => ?_; replace ad := am (rB ad.out hb); replace ac := am (Kd.S_below (by (with_reducible repeat (first | apply Kd.S_alloc | apply Kd.S_drewN | apply Kd.S_drew)); exact ac.out) hb); replace ae := am (rB ae.out hb); replace HB := am (sTx HB.out hb)))
  (try simp only [Act.put, List.setIfInBounds_toArray, List.set_cons_zero, List.set_cons_succ])
  go_cut [61] (fun v61 wc => ∃ (kq : Nat) (aD : Bool), v61 = .bool aD ∧ Aside0 (graftwoodlaw17_ListTells.j0 kq aa ab ag af aD = some r) ∧ Aside0 (kq ≤ k) ∧ Aside0 (Kd.R k55 55 wc w.heap.size (fun _ => True) (.slice ax aa.length ay) aa) ∧ Aside0 (Below w.heap.size w wc))
  case first =>
   have H := aW.out
   clear aW
   replace H := bnd H; obtain ⟨aw, A29, H⟩ := H
   replace H := ifB H; rcases H with ⟨rfl, H⟩ | ⟨rfl, H⟩
   ·replace H := bnd H; obtain ⟨al, A31, H⟩ := H
    replace H := bnd H; obtain ⟨ar, A32, H⟩ := H
    replace H := ifB H; rcases H with ⟨rfl, H⟩ | ⟨rfl, H⟩
    ·replace H := ifP H; rcases H with ⟨c34, H⟩ | ⟨c34, H⟩
     ·have aA := beq_iff_eq.mpr c34
      have aM := bne_eq_false_iff_eq.mpr c34
      clear c34
      (first | rw [aA] | (simp only [i64_w, i32_w]; rw [aA]) | skip)
      replace H := bnd H; obtain ⟨an, A35, H⟩ := H
      replace H := ifB H; rcases H with ⟨rfl, H⟩ | ⟨rfl, H⟩
      ·have H' := Aside0.mk H
       clear H
       go_wp2_with (first | ((with_reducible refine gtC 14 ?_); refine xCb 36 Tryz.func14 (graftwoodref16_May.calls k _ _ ah true _ (cW (Kd.S_reads' ac.out).2.2) ((Kd.S_reads' ac.out).2.1) A29.out) fun w37 hb => ?_; replace ad := am (rB ad.out hb); replace ac := am (Kd.S_below (by (with_reducible repeat (first | apply Kd.S_alloc | apply Kd.S_drewN | apply Kd.S_drew)); exact ac.out) hb); replace ae := am (rB ae.out hb); replace HB := am (sTx HB.out hb)) | (go_at_call 16; (with_reducible refine (graftwoodref17_Build.calls k _ _ ah al _ (cW (Kd.S_reads' ac.out).2.2) ((Kd.S_reads' ac.out).2.1) A31.out).mono ?_); rintro e w38 ⟨aR, rfl, ho0, hb⟩; replace ac := am (Kd.S_below (by (with_reducible repeat (first | apply Kd.S_alloc | apply Kd.S_drewN | apply Kd.S_drew)); exact ac.out) hb); have aj := am (Kd.R_lower (Kd.R_new' (Kd.R_new' ho0 (Kd.R_lt (rT ad.out))) (Kd.R_lt (rT ae.out))) (below_size (eTx HB.out))); replace ad := am (Kd.R_elder' (rT ad.out) (Kd.R_base ho0) hb); replace ae := am (Kd.R_elder' (rT ae.out) (Kd.R_base ho0) hb); replace HB := am (sTx HB.out hb); obtain ⟨bR, bS, bE⟩ := Kd.R_slice ae.out; subst bE; obtain ⟨bU, bV, bF⟩ := Kd.R_slice aj.out; subst bF) | (go_at_call 15; (with_reducible refine (graftwoodref05_Same.calls k _ _ ai _ _ al true _ (cW (Kd.R_reads' ae.out).2.2) ((Kd.R_reads' ae.out).2.1) (cW (Kd.R_reads' aj.out).2.2) ((Kd.R_reads' aj.out).2.1) A32.out).mono ?_); rintro e w' ⟨rfl, ⟨nd, rfl⟩⟩) | (go_at_call 14; (with_reducible refine (graftwoodref16_May.calls k _ _ ah true _ (cW (Kd.S_reads' ac.out).2.2) ((Kd.S_reads' ac.out).2.1) A35.out).mono ?_); rintro e w41 ⟨rfl, hb⟩; replace ad := am (rB ad.out hb); replace ac := am (Kd.S_below (by (with_reducible repeat (first | apply Kd.S_alloc | apply Kd.S_drewN | apply Kd.S_drew)); exact ac.out) hb); replace ae := am (rB ae.out hb); replace aj := am (rB aj.out hb); replace HB := am (sTx HB.out hb)))
       go_meet
       case rel => exact ⟨_, (false), rfG, H', ⟨rfO⟩, ⟨by (with_reducible repeat (first | apply Kd.R_alloc | apply Kd.R_drewN | apply Kd.R_drew)); exact Kd.R_mono ad.out (fun _ hk => trivial)⟩, ⟨eTx HB.out⟩⟩
      ·replace H := ifP H; rcases H with ⟨c42, H⟩ | ⟨c42, H⟩
       ·have aN : decide (0 < (ai.length : Int)) = true := decide_eq_true c42
        have aO : decide (0 < ai.length) = true := decide_eq_true (by omega)
        clear c42
        have H' := Aside0.mk H
        clear H
        go_wp2_with (first | ((with_reducible refine gtC 14 ?_); refine xCb 36 Tryz.func14 (graftwoodref16_May.calls k _ _ ah true _ (cW (Kd.S_reads' ac.out).2.2) ((Kd.S_reads' ac.out).2.1) A29.out) fun w43 hb => ?_; replace ad := am (rB ad.out hb); replace ac := am (Kd.S_below (by (with_reducible repeat (first | apply Kd.S_alloc | apply Kd.S_drewN | apply Kd.S_drew)); exact ac.out) hb); replace ae := am (rB ae.out hb); replace HB := am (sTx HB.out hb)) | (go_at_call 16; (with_reducible refine (graftwoodref17_Build.calls k _ _ ah al _ (cW (Kd.S_reads' ac.out).2.2) ((Kd.S_reads' ac.out).2.1) A31.out).mono ?_); rintro e w44 ⟨aR, rfl, ho0, hb⟩; replace ac := am (Kd.S_below (by (with_reducible repeat (first | apply Kd.S_alloc | apply Kd.S_drewN | apply Kd.S_drew)); exact ac.out) hb); have aj := am (Kd.R_lower (Kd.R_new' (Kd.R_new' ho0 (Kd.R_lt (rT ad.out))) (Kd.R_lt (rT ae.out))) (below_size (eTx HB.out))); replace ad := am (Kd.R_elder' (rT ad.out) (Kd.R_base ho0) hb); replace ae := am (Kd.R_elder' (rT ae.out) (Kd.R_base ho0) hb); replace HB := am (sTx HB.out hb); obtain ⟨bW, bX, bG⟩ := Kd.R_slice ae.out; subst bG; obtain ⟨bZ, b0, bH⟩ := Kd.R_slice aj.out; subst bH) | (go_at_call 15; (with_reducible refine (graftwoodref05_Same.calls k _ _ ai _ _ al true _ (cW (Kd.R_reads' ae.out).2.2) ((Kd.R_reads' ae.out).2.1) (cW (Kd.R_reads' aj.out).2.2) ((Kd.R_reads' aj.out).2.1) A32.out).mono ?_); rintro e w' ⟨rfl, ⟨nd, rfl⟩⟩) | (go_at_call 14; (with_reducible refine (graftwoodref16_May.calls k _ _ ah false _ (cW (Kd.S_reads' ac.out).2.2) ((Kd.S_reads' ac.out).2.1) A35.out).mono ?_); rintro e w47 ⟨rfl, hb⟩; replace ad := am (rB ad.out hb); replace ac := am (Kd.S_below (by (with_reducible repeat (first | apply Kd.S_alloc | apply Kd.S_drewN | apply Kd.S_drew)); exact ac.out) hb); replace ae := am (rB ae.out hb); replace aj := am (rB aj.out hb); replace HB := am (sTx HB.out hb)))
        go_meet
        case rel => exact ⟨_, (true), rfG, H', ⟨rfO⟩, ⟨by (with_reducible repeat (first | apply Kd.R_alloc | apply Kd.R_drewN | apply Kd.R_drew)); exact Kd.R_mono ad.out (fun _ hk => trivial)⟩, ⟨eTx HB.out⟩⟩
       ·have aN : decide (0 < (ai.length : Int)) = false := decide_eq_false c42
        have aO : decide (0 < ai.length) = false := decide_eq_false (by omega)
        clear c42
        have H' := Aside0.mk H
        clear H
        go_wp2_with (first | ((with_reducible refine gtC 14 ?_); refine xCb 36 Tryz.func14 (graftwoodref16_May.calls k _ _ ah true _ (cW (Kd.S_reads' ac.out).2.2) ((Kd.S_reads' ac.out).2.1) A29.out) fun w48 hb => ?_; replace ad := am (rB ad.out hb); replace ac := am (Kd.S_below (by (with_reducible repeat (first | apply Kd.S_alloc | apply Kd.S_drewN | apply Kd.S_drew)); exact ac.out) hb); replace ae := am (rB ae.out hb); replace HB := am (sTx HB.out hb)) | (go_at_call 16; (with_reducible refine (graftwoodref17_Build.calls k _ _ ah al _ (cW (Kd.S_reads' ac.out).2.2) ((Kd.S_reads' ac.out).2.1) A31.out).mono ?_); rintro e w49 ⟨aR, rfl, ho0, hb⟩; replace ac := am (Kd.S_below (by (with_reducible repeat (first | apply Kd.S_alloc | apply Kd.S_drewN | apply Kd.S_drew)); exact ac.out) hb); have aj := am (Kd.R_lower (Kd.R_new' (Kd.R_new' ho0 (Kd.R_lt (rT ad.out))) (Kd.R_lt (rT ae.out))) (below_size (eTx HB.out))); replace ad := am (Kd.R_elder' (rT ad.out) (Kd.R_base ho0) hb); replace ae := am (Kd.R_elder' (rT ae.out) (Kd.R_base ho0) hb); replace HB := am (sTx HB.out hb); obtain ⟨b1, b2, bI⟩ := Kd.R_slice ae.out; subst bI; obtain ⟨b3, b4, bJ⟩ := Kd.R_slice aj.out; subst bJ) | (go_at_call 15; (with_reducible refine (graftwoodref05_Same.calls k _ _ ai _ _ al true _ (cW (Kd.R_reads' ae.out).2.2) ((Kd.R_reads' ae.out).2.1) (cW (Kd.R_reads' aj.out).2.2) ((Kd.R_reads' aj.out).2.1) A32.out).mono ?_); rintro e w' ⟨rfl, ⟨nd, rfl⟩⟩) | (go_at_call 14; (with_reducible refine (graftwoodref16_May.calls k _ _ ah false _ (cW (Kd.S_reads' ac.out).2.2) ((Kd.S_reads' ac.out).2.1) A35.out).mono ?_); rintro e w52 ⟨rfl, hb⟩; replace ad := am (rB ad.out hb); replace ac := am (Kd.S_below (by (with_reducible repeat (first | apply Kd.S_alloc | apply Kd.S_drewN | apply Kd.S_drew)); exact ac.out) hb); replace ae := am (rB ae.out hb); replace aj := am (rB aj.out hb); replace HB := am (sTx HB.out hb)))
        go_meet
        case rel => exact ⟨_, ((ak != 1)), rfG, H', ⟨rfO⟩, ⟨by (with_reducible repeat (first | apply Kd.R_alloc | apply Kd.R_drewN | apply Kd.R_drew)); exact Kd.R_mono ad.out (fun _ hk => trivial)⟩, ⟨eTx HB.out⟩⟩
     ·have aA := beq_eq_false_iff_ne.mpr c34
      have aM := bne_iff_ne.mpr c34
      (first | rw [aA] | (simp only [i64_w, i32_w]; rw [aA]) | skip)
      have H' := Aside0.mk H
      clear H
      go_wp2_with (first | ((with_reducible refine gtC 14 ?_); refine xCb 36 Tryz.func14 (graftwoodref16_May.calls k _ _ ah true _ (cW (Kd.S_reads' ac.out).2.2) ((Kd.S_reads' ac.out).2.1) A29.out) fun w53 hb => ?_; replace ad := am (rB ad.out hb); replace ac := am (Kd.S_below (by (with_reducible repeat (first | apply Kd.S_alloc | apply Kd.S_drewN | apply Kd.S_drew)); exact ac.out) hb); replace ae := am (rB ae.out hb); replace HB := am (sTx HB.out hb)) | (go_at_call 16; (with_reducible refine (graftwoodref17_Build.calls k _ _ ah al _ (cW (Kd.S_reads' ac.out).2.2) ((Kd.S_reads' ac.out).2.1) A31.out).mono ?_); rintro e w54 ⟨aR, rfl, ho0, hb⟩; replace ac := am (Kd.S_below (by (with_reducible repeat (first | apply Kd.S_alloc | apply Kd.S_drewN | apply Kd.S_drew)); exact ac.out) hb); have aj := am (Kd.R_lower (Kd.R_new' (Kd.R_new' ho0 (Kd.R_lt (rT ad.out))) (Kd.R_lt (rT ae.out))) (below_size (eTx HB.out))); replace ad := am (Kd.R_elder' (rT ad.out) (Kd.R_base ho0) hb); replace ae := am (Kd.R_elder' (rT ae.out) (Kd.R_base ho0) hb); replace HB := am (sTx HB.out hb); obtain ⟨b5, b6, bK⟩ := Kd.R_slice ae.out; subst bK; obtain ⟨b7, b8, bL⟩ := Kd.R_slice aj.out; subst bL) | (go_at_call 15; (with_reducible refine (graftwoodref05_Same.calls k _ _ ai _ _ al true _ (cW (Kd.R_reads' ae.out).2.2) ((Kd.R_reads' ae.out).2.1) (cW (Kd.R_reads' aj.out).2.2) ((Kd.R_reads' aj.out).2.1) A32.out).mono ?_); rintro e w' ⟨rfl, ⟨nd, rfl⟩⟩))
      go_meet
      case rel => exact ⟨_, (true), rfG, H', ⟨rfO⟩, ⟨by (with_reducible repeat (first | apply Kd.R_alloc | apply Kd.R_drewN | apply Kd.R_drew)); exact Kd.R_mono ad.out (fun _ hk => trivial)⟩, ⟨eTx HB.out⟩⟩
    ·have H' := Aside0.mk H
     clear H
     go_wp2_with (first | ((with_reducible refine gtC 14 ?_); refine xCb 36 Tryz.func14 (graftwoodref16_May.calls k _ _ ah true _ (cW (Kd.S_reads' ac.out).2.2) ((Kd.S_reads' ac.out).2.1) A29.out) fun w57 hb => ?_; replace ad := am (rB ad.out hb); replace ac := am (Kd.S_below (by (with_reducible repeat (first | apply Kd.S_alloc | apply Kd.S_drewN | apply Kd.S_drew)); exact ac.out) hb); replace ae := am (rB ae.out hb); replace HB := am (sTx HB.out hb)) | (go_at_call 16; (with_reducible refine (graftwoodref17_Build.calls k _ _ ah al _ (cW (Kd.S_reads' ac.out).2.2) ((Kd.S_reads' ac.out).2.1) A31.out).mono ?_); rintro e w58 ⟨aR, rfl, ho0, hb⟩; replace ac := am (Kd.S_below (by (with_reducible repeat (first | apply Kd.S_alloc | apply Kd.S_drewN | apply Kd.S_drew)); exact ac.out) hb); have aj := am (Kd.R_lower (Kd.R_new' (Kd.R_new' ho0 (Kd.R_lt (rT ad.out))) (Kd.R_lt (rT ae.out))) (below_size (eTx HB.out))); replace ad := am (Kd.R_elder' (rT ad.out) (Kd.R_base ho0) hb); replace ae := am (Kd.R_elder' (rT ae.out) (Kd.R_base ho0) hb); replace HB := am (sTx HB.out hb); obtain ⟨b9, b_, bM⟩ := Kd.R_slice ae.out; subst bM; obtain ⟨ca, cb, bN⟩ := Kd.R_slice aj.out; subst bN) | (go_at_call 15; (with_reducible refine (graftwoodref05_Same.calls k _ _ ai _ _ al false _ (cW (Kd.R_reads' ae.out).2.2) ((Kd.R_reads' ae.out).2.1) (cW (Kd.R_reads' aj.out).2.2) ((Kd.R_reads' aj.out).2.1) A32.out).mono ?_); rintro e w' ⟨rfl, ⟨nd, rfl⟩⟩))
     go_meet
     case rel => exact ⟨_, (true), rfG, H', ⟨rfO⟩, ⟨by (with_reducible repeat (first | apply Kd.R_alloc | apply Kd.R_drewN | apply Kd.R_drew)); exact Kd.R_mono ad.out (fun _ hk => trivial)⟩, ⟨eTx HB.out⟩⟩
   ·replace H := bnd H; obtain ⟨au, A61, H⟩ := H
    replace H := ifB H; rcases H with ⟨rfl, H⟩ | ⟨rfl, H⟩
    ·have H' := Aside0.mk H
     clear H
     go_wp2_with (first | ((with_reducible refine gtC 14 ?_); refine xCb 36 Tryz.func14 (graftwoodref16_May.calls k _ _ ah false _ (cW (Kd.S_reads' ac.out).2.2) ((Kd.S_reads' ac.out).2.1) A29.out) fun w63 hb => ?_; replace ad := am (rB ad.out hb); replace ac := am (Kd.S_below (by (with_reducible repeat (first | apply Kd.S_alloc | apply Kd.S_drewN | apply Kd.S_drew)); exact ac.out) hb); replace ae := am (rB ae.out hb); replace HB := am (sTx HB.out hb)) | (go_at_call 14; (with_reducible refine (graftwoodref16_May.calls k _ _ ah true _ (cW (Kd.S_reads' ac.out).2.2) ((Kd.S_reads' ac.out).2.1) A61.out).mono ?_); rintro e w64 ⟨rfl, hb⟩; replace ad := am (rB ad.out hb); replace ac := am (Kd.S_below (by (with_reducible repeat (first | apply Kd.S_alloc | apply Kd.S_drewN | apply Kd.S_drew)); exact ac.out) hb); replace ae := am (rB ae.out hb); replace HB := am (sTx HB.out hb)))
     go_meet
     case rel => exact ⟨_, (false), rfG, H', ⟨rfO⟩, ⟨by (with_reducible repeat (first | apply Kd.R_alloc | apply Kd.R_drewN | apply Kd.R_drew)); exact Kd.R_mono ad.out (fun _ hk => trivial)⟩, ⟨eTx HB.out⟩⟩
    ·replace H := ifP H; rcases H with ⟨c65, H⟩ | ⟨c65, H⟩
     ·have aP : decide (0 < (ai.length : Int)) = true := decide_eq_true c65
      have aQ : decide (0 < ai.length) = true := decide_eq_true (by omega)
      clear c65
      have H' := Aside0.mk H
      clear H
      go_wp2_with (first | ((with_reducible refine gtC 14 ?_); refine xCb 36 Tryz.func14 (graftwoodref16_May.calls k _ _ ah false _ (cW (Kd.S_reads' ac.out).2.2) ((Kd.S_reads' ac.out).2.1) A29.out) fun w66 hb => ?_; replace ad := am (rB ad.out hb); replace ac := am (Kd.S_below (by (with_reducible repeat (first | apply Kd.S_alloc | apply Kd.S_drewN | apply Kd.S_drew)); exact ac.out) hb); replace ae := am (rB ae.out hb); replace HB := am (sTx HB.out hb)) | (go_at_call 14; (with_reducible refine (graftwoodref16_May.calls k _ _ ah false _ (cW (Kd.S_reads' ac.out).2.2) ((Kd.S_reads' ac.out).2.1) A61.out).mono ?_); rintro e w67 ⟨rfl, hb⟩; replace ad := am (rB ad.out hb); replace ac := am (Kd.S_below (by (with_reducible repeat (first | apply Kd.S_alloc | apply Kd.S_drewN | apply Kd.S_drew)); exact ac.out) hb); replace ae := am (rB ae.out hb); replace HB := am (sTx HB.out hb); obtain ⟨cc, cd, bO⟩ := Kd.R_slice ae.out; subst bO))
      go_meet
      case rel => exact ⟨_, (true), rfG, H', ⟨rfO⟩, ⟨by (with_reducible repeat (first | apply Kd.R_alloc | apply Kd.R_drewN | apply Kd.R_drew)); exact Kd.R_mono ad.out (fun _ hk => trivial)⟩, ⟨eTx HB.out⟩⟩
     ·have aP : decide (0 < (ai.length : Int)) = false := decide_eq_false c65
      have aQ : decide (0 < ai.length) = false := decide_eq_false (by omega)
      clear c65
      have H' := Aside0.mk H
      clear H
      go_wp2_with (first | ((with_reducible refine gtC 14 ?_); refine xCb 36 Tryz.func14 (graftwoodref16_May.calls k _ _ ah false _ (cW (Kd.S_reads' ac.out).2.2) ((Kd.S_reads' ac.out).2.1) A29.out) fun w69 hb => ?_; replace ad := am (rB ad.out hb); replace ac := am (Kd.S_below (by (with_reducible repeat (first | apply Kd.S_alloc | apply Kd.S_drewN | apply Kd.S_drew)); exact ac.out) hb); replace ae := am (rB ae.out hb); replace HB := am (sTx HB.out hb)) | (go_at_call 14; (with_reducible refine (graftwoodref16_May.calls k _ _ ah false _ (cW (Kd.S_reads' ac.out).2.2) ((Kd.S_reads' ac.out).2.1) A61.out).mono ?_); rintro e w70 ⟨rfl, hb⟩; replace ad := am (rB ad.out hb); replace ac := am (Kd.S_below (by (with_reducible repeat (first | apply Kd.S_alloc | apply Kd.S_drewN | apply Kd.S_drew)); exact ac.out) hb); replace ae := am (rB ae.out hb); replace HB := am (sTx HB.out hb); obtain ⟨ce, cf, bP⟩ := Kd.R_slice ae.out; subst bP))
      go_meet
      case rel => exact ⟨_, ((ak != 1)), rfG, H', ⟨rfO⟩, ⟨by (with_reducible repeat (first | apply Kd.R_alloc | apply Kd.R_drewN | apply Kd.R_drew)); exact Kd.R_mono ad.out (fun _ hk => trivial)⟩, ⟨eTx HB.out⟩⟩
  case rest =>
   clear aW
   obtain ⟨kq, aD, rfl, HA, a7, ao, HB⟩ := hcut
   cases kq with
   | zero => exact absurd HA.out (by simp [graftwoodlaw17_ListTells.j0])
   | succ kj19 =>
    have H := HA.out
    clear HA
    simp only [graftwoodlaw17_ListTells.j0] at H
    replace H := ifB H; rcases H with ⟨rfl, H⟩ | ⟨rfl, H⟩
    ·obtain rfl := smI H
     go_wp2
     go_ret
     exact ⟨rfF, eTx HB.out⟩
    ·have aX := Aside0.mk H
     clear H
     go_upto_region 8 with (fail)
     go_cut [69] (fun v69 wc => ∃ (kq : Nat) (aE : Bool), v69 = .bool aE ∧ Aside0 (graftwoodlaw17_ListTells.j1 kq aa ab ag af aE = some r) ∧ Aside0 (kq ≤ kj19) ∧ Aside0 (Kd.R k55 55 wc w.heap.size (fun _ => True) (.slice ax aa.length ay) aa) ∧ Aside0 (Below w.heap.size w wc))
     case first =>
      have H := aX.out
      clear aX
      replace H := bnd H; obtain ⟨aH, A74, H⟩ := H
      replace H := ifB H; rcases H with ⟨rfl, H⟩ | ⟨rfl, H⟩
      ·replace H := bnd H; obtain ⟨az, A76, H⟩ := H
       have H' := Aside0.mk H
       clear H
       go_wp2_with (first | ((with_reducible refine gtC 13 ?_); refine xCb 63 Tryz.func13 (graftwoodref17_May.calls kj19 _ _ aa true _ (cW (Kd.R_reads' ao.out).2.2) ((Kd.R_reads' ao.out).2.1) A74.out) fun w77 hb => ?_; replace ao := am (rB ao.out hb); replace HB := am (sTx HB.out hb)) | (go_at_call 17; (with_reducible refine (graftwoodref04_May.calls kj19 ab az _ A76.out).mono ?_); rintro e w78 ⟨rfl, hb⟩; replace ao := am (rB ao.out hb); replace HB := am (sTx HB.out hb)))
       go_meet
       case rel => exact ⟨_, (!az), rfG, H', ⟨by have := a7.out; first | omega | exact Nat.le_refl _⟩, ⟨rT ao.out⟩, ⟨eTx HB.out⟩⟩
      ·have H' := Aside0.mk H
       clear H
       go_wp2_with (first | ((with_reducible refine gtC 13 ?_); refine xCb 63 Tryz.func13 (graftwoodref17_May.calls kj19 _ _ aa false _ (cW (Kd.R_reads' ao.out).2.2) ((Kd.R_reads' ao.out).2.1) A74.out) fun w79 hb => ?_; replace ao := am (rB ao.out hb); replace HB := am (sTx HB.out hb)))
       go_meet
       case rel => exact ⟨_, (true), rfG, H', ⟨by have := a7.out; first | omega | exact Nat.le_refl _⟩, ⟨rT ao.out⟩, ⟨eTx HB.out⟩⟩
     case rest =>
      clear aX
      obtain ⟨kq, aE, rfl, HA, cg, ao, HB⟩ := hcut
      cases kq with
      | zero => exact absurd HA.out (by simp [graftwoodlaw17_ListTells.j1])
      | succ kj72 =>
       have H := HA.out
       clear HA
       simp only [graftwoodlaw17_ListTells.j1] at H
       replace H := ifB H; rcases H with ⟨rfl, H⟩ | ⟨rfl, H⟩
       ·replace H := ifP H; rcases H with ⟨c81, H⟩ | ⟨c81, H⟩
        ·have a_ := beq_iff_eq.mpr c81
         have bb := bne_eq_false_iff_eq.mpr c81
         clear c81
         replace H := ifP H; rcases H with ⟨c82, H⟩ | ⟨c82, H⟩
         ·have bc := beq_iff_eq.mpr c82
          have be := bne_eq_false_iff_eq.mpr c82
          clear c82
          replace H := bnd H; obtain ⟨aI, A83, H⟩ := H
          obtain rfl := smI H
          go_wp2_with (first | (go_at_call 18; (with_reducible refine (graftwoodlaw17_awake.calls kj72  aI _ A83.out).mono ?_); rintro e w84 ⟨rfl, hb⟩; replace ao := am (rB ao.out hb); replace HB := am (sTx HB.out hb)))
          go_ret
          exact ⟨rfF, eTx HB.out⟩
         ·have bc := beq_eq_false_iff_ne.mpr c82
          have be := bne_iff_ne.mpr c82
          obtain rfl := smI H
          go_wp2
          go_ret
          exact ⟨rfF, eTx HB.out⟩
        ·have a_ := beq_eq_false_iff_ne.mpr c81
         have bb := bne_iff_ne.mpr c81
         obtain rfl := smI H
         go_wp2
         go_ret
         exact ⟨rfF, eTx HB.out⟩
       ·replace H := bnd H; obtain ⟨av, A85, H⟩ := H
        replace H := ifP H; rcases H with ⟨c86, H⟩ | ⟨c86, H⟩
        ·have bh := beq_iff_eq.mpr c86
         have bi := bne_eq_false_iff_eq.mpr c86
         clear c86
         replace H := ifP H; rcases H with ⟨c87, H⟩ | ⟨c87, H⟩
         ·have bj := beq_iff_eq.mpr c87
          have bk := bne_eq_false_iff_eq.mpr c87
          clear c87
          replace H := ifP H; rcases H with ⟨c88, H⟩ | ⟨c88, H⟩
          ·have bl := beq_iff_eq.mpr c88
           have bm := bne_eq_false_iff_eq.mpr c88
           clear c88
           replace H := bnd H; obtain ⟨aF, A89, H⟩ := H
           obtain rfl := smI H
           go_wp2_with (first | ((with_reducible refine gtC 19 ?_); refine xCz 81 Tryz.func19 (graftwoodref17_Pick.calls kj72 _ _ aa ab av _ (cW (Kd.R_reads' ao.out).2.2) ((Kd.R_reads' ao.out).2.1) A85.out) fun nd => ?_) | (go_at_call 18; (with_reducible refine (graftwoodlaw17_awake.calls kj72  aF _ A89.out).mono ?_); rintro e w90 ⟨rfl, hb⟩; replace ao := am (rB ao.out hb); replace HB := am (sTx HB.out hb)))
           go_ret
           exact ⟨rfF, eTx HB.out⟩
          ·have bl := beq_eq_false_iff_ne.mpr c88
           have bm := bne_iff_ne.mpr c88
           obtain rfl := smI H
           go_wp2_with (first | ((with_reducible refine gtC 19 ?_); refine xCz 81 Tryz.func19 (graftwoodref17_Pick.calls kj72 _ _ aa ab av _ (cW (Kd.R_reads' ao.out).2.2) ((Kd.R_reads' ao.out).2.1) A85.out) fun nd => ?_))
           go_ret
           exact ⟨rfF, eTx HB.out⟩
         ·have bj := beq_eq_false_iff_ne.mpr c87
          have bk := bne_iff_ne.mpr c87
          replace H := ifP H; rcases H with ⟨c91, H⟩ | ⟨c91, H⟩
          ·have bp := beq_iff_eq.mpr c91
           have bq := bne_eq_false_iff_eq.mpr c91
           clear c91
           replace H := bnd H; obtain ⟨aG, A92, H⟩ := H
           obtain rfl := smI H
           go_wp2_with (first | ((with_reducible refine gtC 19 ?_); refine xCz 81 Tryz.func19 (graftwoodref17_Pick.calls kj72 _ _ aa ab av _ (cW (Kd.R_reads' ao.out).2.2) ((Kd.R_reads' ao.out).2.1) A85.out) fun nd => ?_) | (go_at_call 18; (with_reducible refine (graftwoodlaw17_awake.calls kj72  aG _ A92.out).mono ?_); rintro e w93 ⟨rfl, hb⟩; replace ao := am (rB ao.out hb); replace HB := am (sTx HB.out hb)))
           go_ret
           exact ⟨rfF, eTx HB.out⟩
          ·have bp := beq_eq_false_iff_ne.mpr c91
           have bq := bne_iff_ne.mpr c91
           obtain rfl := smI H
           go_wp2_with (first | ((with_reducible refine gtC 19 ?_); refine xCz 81 Tryz.func19 (graftwoodref17_Pick.calls kj72 _ _ aa ab av _ (cW (Kd.R_reads' ao.out).2.2) ((Kd.R_reads' ao.out).2.1) A85.out) fun nd => ?_))
           go_ret
           exact ⟨rfF, eTx HB.out⟩
        ·have bh := beq_eq_false_iff_ne.mpr c86
         have bi := bne_iff_ne.mpr c86
         obtain rfl := smI H
         go_wp2_with (first | ((with_reducible refine gtC 19 ?_); refine xCz 81 Tryz.func19 (graftwoodref17_Pick.calls kj72 _ _ aa ab av _ (cW (Kd.R_reads' ao.out).2.2) ((Kd.R_reads' ao.out).2.1) A85.out) fun nd => ?_))
         go_ret
         exact ⟨rfF, eTx HB.out⟩

end Go.Proofs.YtknmfmedklfepaaGreatDoor.P
