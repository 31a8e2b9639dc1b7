-- half the indentation
import Derived.Test.YtknmfmedklfepaaDoorSqz
import Derived.Test.YtknmfmedklfepaaDoorP0
import Derived.Test.YtknmfmedklfepaaDoorP3
import Derived.Test.YtknmfmedklfepaaDoorP22
import Derived.Test.YtknmfmedklfepaaDoorP23
import Derived.Test.YtknmfmedklfepaaDoorP25
import Derived.Test.YtknmfmedklfepaaDoorP26
namespace Go.Proofs.YtknmfmedklfepaaDoor.P
open Go.RowKit Go.Proofs.YtknmfmedklfepaaDoorW.PrintWords Go.Proofs.YtknmfmedklfepaaDoorW.PrintLast Go.Proofs.YtknmfmedklfepaaDoorW.PrintMore
attribute [local go_sem] max2_int min2_int max_two min_two max_three min_three max_four min_four
set_option linter.unusedVariables false
set_option linter.unusedSimpArgs false
set_option maxHeartbeats 8000000
set_option maxRecDepth 100000

/-! ### graftwoodlaw17_ListPicks: function 3 -/
mutual
def graftwoodlaw17_ListPicks.l0 : Nat → List (S33) → List (S33) → ByteArray → List (S41) → Int → Option (Bool)
 | 0, _, _, _, _, _ => none
 | k + 1, x0, x1, x2, x7, x9 => if x9 < (x0.length : Int) then (if 0 ≤ x9 then ((list_Pick.f k x0 ((rd_T33 x0 x9).f0)).bind fun bt310 => (if bt310.1.toList = ((rd_T33 x0 x9).f1).toList then (if bt310.2 = 0 then (graftwoodlaw17_ListPicks.l0 k x0 x1 x2 x7 (wrap64 (x9 + 1))) else (some false)) else (some false))) else (none)) else (graftwoodlaw17_ListPicks.l1 k x0 x1 x2 x7 0 0)
def graftwoodlaw17_ListPicks.l1 : Nat → List (S33) → List (S33) → ByteArray → List (S41) → Int → Int → Option (Bool)
 | 0, _, _, _, _, _, _ => none
 | k + 1, x0, x1, x2, x7, x12, x13 => if x13 < (x0.length : Int) then (if 0 ≤ x13 then ((list_Pick.f k x1 ((rd_T33 x0 x13).f0)).bind fun bt314 => (if bt314.1.toList = ((rd_T33 x0 x13).f1).toList then (graftwoodlaw17_ListPicks.l1 k x0 x1 x2 x7 x12 (wrap64 (x13 + 1))) else (graftwoodlaw17_ListPicks.l1 k x0 x1 x2 x7 (wrap64 (x12 + 1)) (wrap64 (x13 + 1))))) else (none)) else (graftwoodlaw17_ListPicks.l2 k x0 x1 x2 x7 x12 0)
def graftwoodlaw17_ListPicks.l2 : Nat → List (S33) → List (S33) → ByteArray → List (S41) → Int → Int → Option (Bool)
 | 0, _, _, _, _, _, _ => none
 | k + 1, x0, x1, x2, x7, x12, x16 => if x16 < (x1.length : Int) then (if 0 ≤ x16 then ((list_Pick.f k x0 ((rd_T33 x1 x16).f0)).bind fun bt318 => (if bt318.2 = 2 then (graftwoodlaw17_ListPicks.l2 k x0 x1 x2 x7 (wrap64 (x12 + 1)) (wrap64 (x16 + 1))) else (graftwoodlaw17_ListPicks.l2 k x0 x1 x2 x7 x12 (wrap64 (x16 + 1))))) else (none)) else ((list_Pick.f k x0 x2).bind fun bt320 => (if (x7.length : Int) = x12 then ((graftwoodref05_Has.f k x0 x2 bt320.1).bind fun ao => (if ((bt320.2 == 0) == ao) = true then ((graftwoodlaw17_awake.f k).bind fun aE => (some aE)) else (some false))) else (some false)))
end
def graftwoodlaw17_ListPicks.f (k : Nat) (l0 : List (S33)) (l1 : List (S33)) (a2 : ByteArray) : Option (Bool) := (graftwoodlaw05_Few.f k l0).bind fun aa => ((graftwoodlaw05_Few.f k l1).bind fun ad => ((graftwoodlaw01_Few.f a2).bind fun aj => ((list_Delta.f k aa ad).bind fun bt304 => (if bt304.2 = 0 then (graftwoodlaw17_ListPicks.l0 k aa ad aj bt304.1 0) else ((graftwoodlaw17_awake.f k).bind fun aq => (some aq))))))
theorem graftwoodlaw17_ListPicks.mono_l : ∀ k, (∀ y0 y1 y2 y3 y4, LeO (graftwoodlaw17_ListPicks.l0 k y0 y1 y2 y3 y4) (graftwoodlaw17_ListPicks.l0 (k + 1) y0 y1 y2 y3 y4)) ∧ (∀ y0 y1 y2 y3 y4 y5, LeO (graftwoodlaw17_ListPicks.l1 k y0 y1 y2 y3 y4 y5) (graftwoodlaw17_ListPicks.l1 (k + 1) y0 y1 y2 y3 y4 y5)) ∧ (∀ y0 y1 y2 y3 y4 y5, LeO (graftwoodlaw17_ListPicks.l2 k y0 y1 y2 y3 y4 y5) (graftwoodlaw17_ListPicks.l2 (k + 1) y0 y1 y2 y3 y4 y5))
 | 0 => ⟨fun _ _ _ _ _ r h => by simp [graftwoodlaw17_ListPicks.l0] at h, fun _ _ _ _ _ _ r h => by simp [graftwoodlaw17_ListPicks.l1] at h, fun _ _ _ _ _ _ r h => by simp [graftwoodlaw17_ListPicks.l2] at h⟩
 | k + 1 => by
  obtain ⟨ih0, ih1, ih2⟩ := graftwoodlaw17_ListPicks.mono_l k
  refine ⟨?_, ?_, ?_⟩
  ·intro y0 y1 y2 y3 y4
   unfold graftwoodlaw17_ListPicks.l0
   repeat' first | (with_reducible first | apply ih0 | apply ih1 | apply ih2 | apply graftwoodlaw05_Few.mono | apply graftwoodlaw17_awake.mono | apply graftwoodref05_Has.mono | apply list_Delta.mono | apply list_Pick.mono | apply LeO.refl | apply LeO.none | apply LeO.ite | refine LeO.bind ?_ (fun _ => ?_)) | apply ih0 | apply ih1 | apply ih2 | apply graftwoodlaw05_Few.mono | apply graftwoodlaw17_awake.mono | apply graftwoodref05_Has.mono | apply list_Delta.mono | apply list_Pick.mono | exact LeO.none _ | refine LeO.ite ?_ ?_ | refine LeO.bind ?_ (fun _ => ?_)
  ·intro y0 y1 y2 y3 y4 y5
   unfold graftwoodlaw17_ListPicks.l1
   repeat' first | (with_reducible first | apply ih0 | apply ih1 | apply ih2 | apply graftwoodlaw05_Few.mono | apply graftwoodlaw17_awake.mono | apply graftwoodref05_Has.mono | apply list_Delta.mono | apply list_Pick.mono | apply LeO.refl | apply LeO.none | apply LeO.ite | refine LeO.bind ?_ (fun _ => ?_)) | apply ih0 | apply ih1 | apply ih2 | apply graftwoodlaw05_Few.mono | apply graftwoodlaw17_awake.mono | apply graftwoodref05_Has.mono | apply list_Delta.mono | apply list_Pick.mono | exact LeO.none _ | refine LeO.ite ?_ ?_ | refine LeO.bind ?_ (fun _ => ?_)
  ·intro y0 y1 y2 y3 y4 y5
   unfold graftwoodlaw17_ListPicks.l2
   repeat' first | (with_reducible first | apply ih0 | apply ih1 | apply ih2 | apply graftwoodlaw05_Few.mono | apply graftwoodlaw17_awake.mono | apply graftwoodref05_Has.mono | apply list_Delta.mono | apply list_Pick.mono | apply LeO.refl | apply LeO.none | apply LeO.ite | refine LeO.bind ?_ (fun _ => ?_)) | apply ih0 | apply ih1 | apply ih2 | apply graftwoodlaw05_Few.mono | apply graftwoodlaw17_awake.mono | apply graftwoodref05_Has.mono | apply list_Delta.mono | apply list_Pick.mono | exact LeO.none _ | refine LeO.ite ?_ ?_ | refine LeO.bind ?_ (fun _ => ?_)
theorem graftwoodlaw17_ListPicks.mono : ∀ a0 a1 a2 k, LeO (graftwoodlaw17_ListPicks.f k a0 a1 a2) (graftwoodlaw17_ListPicks.f (k + 1) a0 a1 a2) := by
 intro a0 a1 a2 k
 obtain ⟨ih0, ih1, ih2⟩ := graftwoodlaw17_ListPicks.mono_l k
 unfold graftwoodlaw17_ListPicks.f
 repeat' first | (with_reducible first | apply ih0 | apply ih1 | apply ih2 | apply graftwoodlaw05_Few.mono | apply graftwoodlaw17_awake.mono | apply graftwoodref05_Has.mono | apply list_Delta.mono | apply list_Pick.mono | apply LeO.refl | apply LeO.none | apply LeO.ite | refine LeO.bind ?_ (fun _ => ?_)) | apply ih0 | apply ih1 | apply ih2 | apply graftwoodlaw05_Few.mono | apply graftwoodlaw17_awake.mono | apply graftwoodref05_Has.mono | apply list_Delta.mono | apply list_Pick.mono | exact LeO.none _ | refine LeO.ite ?_ ?_ | refine LeO.bind ?_ (fun _ => ?_)
theorem graftwoodlaw17_ListPicks.calls (k : Nat) (A0 : Option Addr) (c0 : Nat) (l0 : List (S33)) (A1 : Option Addr) (c1 : Nat) (l1 : List (S33)) (a2 : ByteArray) (r : Bool) (w : World) (hr0 : Kd.C k33 w A0 l0.length l0) (hc0 : l0.length ≤ c0) (hr1 : Kd.C k33 w A1 l1.length l1) (hc1 : l1.length ≤ c1) (h : graftwoodlaw17_ListPicks.f k l0 l1 a2 = some r) :
  Calls Tryd.prog 3 #[.slice A0 l0.length c0, .slice A1 l1.length c1, .string a2] w fun e w' => e = .returned (.bool r) ∧ Below w.heap.size w w' := by
 have hu33 := Tryd.underlying33
 have HR0 := Aside0.mk hr0
 have HC0 := Aside0.mk hc0
 clear hr0 hc0
 have HR1 := Aside0.mk hr1
 have HC1 := Aside0.mk hc1
 clear hr1 hc1
 have HB := am (Below.refl w.heap.size w)
 unfold graftwoodlaw17_ListPicks.f at h; have H := h; clear h
 replace H := bnd H; obtain ⟨aa, A4, H⟩ := H
 replace H := bnd H; obtain ⟨ad, A5, H⟩ := H
 replace H := bnd H; obtain ⟨aj, A6, H⟩ := H
 replace H := bnd H; obtain ⟨⟨al, aF⟩, A7, H⟩ := H
 (try dsimp only at H)
 replace H := ifP H; rcases H with ⟨c8, H⟩ | ⟨c8, H⟩
 ·have aV := beq_iff_eq.mpr c8
  have aW := bne_eq_false_iff_eq.mpr c8
  clear c8
  have H' := Aside0.mk H
  clear H
  go_enter Tryd.func3, Tryd.ntmps3
  go_wp2_with (first | ((with_reducible refine gtC 5 ?_); refine xCl 22 Tryd.func5 (graftwoodlaw05_Few.calls k _ _ l0 aa _ (cW (HR0.out)) HC0.out A4.out) ?_; rintro e w9 ⟨br, rfl, ho0, hb⟩; refine ⟨_, rfl, ?_⟩; have ai := am (Kd.R_lower ho0 (below_size (eTx HB.out))); replace HB := am (sTx HB.out hb)) | ((with_reducible refine gtC 5 ?_); refine xCl 24 Tryd.func5 (graftwoodlaw05_Few.calls k _ _ l1 ad _ (cW (Kd.C_below HR1.out HB.out)) HC1.out A5.out) ?_; rintro e w10 ⟨bs, rfl, ho0, hb⟩; refine ⟨_, rfl, ?_⟩; have ak := am (Kd.R_lower (Kd.R_new' ho0 (Kd.R_lt (rT ai.out))) (below_size (eTx HB.out))); replace ai := am (Kd.R_elder' (rT ai.out) (Kd.R_base ho0) hb); replace HB := am (sTx HB.out hb)) | ((with_reducible refine gtC 6 ?_); refine xCz 26 Tryd.func6 (graftwoodlaw01_Few.calls a2 aj _ A6.out) fun nd => ?_; obtain ⟨av, ap, bt⟩ := Kd.R_slice ai.out; subst bt; obtain ⟨aA, aB, bu⟩ := Kd.R_slice ak.out; subst bu) | ((with_reducible refine gtC 7 ?_); refine xCl 30 Tryd.func7 (list_Delta.calls k _ _ aa _ _ ad al aF _ (cW (Kd.R_reads' ai.out).2.2) ((Kd.R_reads' ai.out).2.1) (cW (Kd.R_reads' ak.out).2.2) ((Kd.R_reads' ak.out).2.1) A7.out) ?_; rintro e w13 ⟨aX, rfl, ho0, hb⟩; refine ⟨_, rfl, ?_⟩; replace ai := am (rB ai.out hb); replace ak := am (rB ak.out hb); have aI := am (Kd.R_lower ho0 (below_size (eTx HB.out))); replace HB := am (sTx HB.out hb)))
  go_loopg [9] k (fun kq v9 w' => ∃ (af : Int), v9 = .int .i64 af ∧ Aside0 (graftwoodlaw17_ListPicks.l0 kq aa ad aj al af = some r) ∧ Aside0 (kq ≤ k) ∧ Aside0 (Kd.R k33 33 w' w.heap.size (fun k_ => some k_ ≠ ((.slice aA ad.length aB) : Value).ownBlock) (.slice av aa.length ap) aa) ∧ Aside0 (Kd.R k33 33 w' w.heap.size (fun k_ => some k_ ≠ ((.slice av aa.length ap) : Value).ownBlock) (.slice aA ad.length aB) ad) ∧ Aside0 (Kd.R k41 41 w' w.heap.size (fun _ => True) aX al) ∧ Aside0 (Below w.heap.size w w'))
  case atStart => exact ⟨(0), rfG, H', ⟨Nat.le_refl _⟩, ⟨by (with_reducible repeat (first | apply Kd.R_alloc | apply Kd.R_drewN | apply Kd.R_drew)); exact Kd.R_mono ai.out (fun _ hk => hk.2)⟩, ⟨by (with_reducible repeat (first | apply Kd.R_alloc | apply Kd.R_drewN | apply Kd.R_drew)); exact Kd.R_mono ak.out (fun _ hk => hk.2)⟩, ⟨rT aI.out⟩, ⟨eTx HB.out⟩⟩
  case round =>
   clear H'
   obtain ⟨af, rfl, HA, HK1, ab, ae, ag, HB⟩ := hrel
   cases gk with
   | zero => exact absurd HA.out (by simp [graftwoodlaw17_ListPicks.l0])
   | succ k1 =>
    have H := HA.out
    clear HA
    simp only [graftwoodlaw17_ListPicks.l0] at H
    replace H := ifP H; rcases H with ⟨c14, H⟩ | ⟨c14, H⟩
    ·have aO := decide_eq_true c14
     clear c14
     replace H := ifN H; obtain ⟨c15, H⟩ := H
     have a3 := decide_eq_true c15
     clear c15
     replace H := bnd H; obtain ⟨⟨aC, aD⟩, A16, H⟩ := H
     (try dsimp only at H)
     replace H := ifP H; rcases H with ⟨c17, H⟩ | ⟨c17, H⟩
     ·have aP := beq_iff_eq.mpr c17
      have aQ := bne_eq_false_iff_eq.mpr c17
      clear c17
      replace H := ifP H; rcases H with ⟨c18, H⟩ | ⟨c18, H⟩
      ·have aR := beq_iff_eq.mpr c18
       have aU := bne_eq_false_iff_eq.mpr c18
       clear c18
       have H' := Aside0.mk H
       clear H
       have p309 : 0 ≤ (af : Int) := of_decide_eq_true rfA
       have q309 : af < (aa.length : Int) := of_decide_eq_true rfA
       obtain ⟨ad309, e309, aw, ax⟩ := at_T33 (Kd.R_reads' ab.out).2.2 af p309 q309
       cases e309
       replace p309 := eq_true p309
       replace q309 := eq_true q309
       go_wp2_with (first | ((with_reducible refine gtC 9 ?_); refine xCb 49 Tryd.func9 (list_Pick.calls k1 _ _ aa ((rd_T33 aa af).f0) aC aD _ (cW (Kd.R_reads' ab.out).2.2) ((Kd.R_reads' ab.out).2.1) A16.out) fun w19 hb => ?_; replace ab := am (rB ab.out hb); replace ae := am (rB ae.out hb); replace ag := am (rB ag.out hb); replace HB := am (sTx HB.out hb); have p312 : 0 ≤ (af : Int) := of_decide_eq_true rfA; have q312 : af < (aa.length : Int) := of_decide_eq_true rfA; obtain ⟨ad312, e312, ay, az⟩ := at_T33 (Kd.R_reads' ab.out).2.2 af p312 q312; obtain rfl : ad309 = ad312 := (by injection e312); replace p312 := eq_true p312; replace q312 := eq_true q312))
       go_roundg k1
       case measure => have := HK1.out; omega
       case rel => exact ⟨(wrap64 (af + 1)), rfG, H', ⟨by have := HK1.out; omega⟩, ⟨rT ab.out⟩, ⟨rT ae.out⟩, ⟨rT ag.out⟩, ⟨eTx HB.out⟩⟩
      ·have aR := beq_eq_false_iff_ne.mpr c18
       have aU := bne_iff_ne.mpr c18
       obtain rfl := smI H
       have p309 : 0 ≤ (af : Int) := of_decide_eq_true rfA
       have q309 : af < (aa.length : Int) := of_decide_eq_true rfA
       obtain ⟨ad309, e309, aw, ax⟩ := at_T33 (Kd.R_reads' ab.out).2.2 af p309 q309
       cases e309
       replace p309 := eq_true p309
       replace q309 := eq_true q309
       go_wp2_with (first | ((with_reducible refine gtC 9 ?_); refine xCb 49 Tryd.func9 (list_Pick.calls k1 _ _ aa ((rd_T33 aa af).f0) aC aD _ (cW (Kd.R_reads' ab.out).2.2) ((Kd.R_reads' ab.out).2.1) A16.out) fun w20 hb => ?_; replace ab := am (rB ab.out hb); replace ae := am (rB ae.out hb); replace ag := am (rB ag.out hb); replace HB := am (sTx HB.out hb); have p312 : 0 ≤ (af : Int) := of_decide_eq_true rfA; have q312 : af < (aa.length : Int) := of_decide_eq_true rfA; obtain ⟨ad312, e312, ay, az⟩ := at_T33 (Kd.R_reads' ab.out).2.2 af p312 q312; obtain rfl : ad309 = ad312 := (by injection e312); replace p312 := eq_true p312; replace q312 := eq_true q312))
       go_ret
       exact ⟨rfF, eTx HB.out⟩
     ·have aP := beq_eq_false_iff_ne.mpr c17
      have aQ := bne_iff_ne.mpr c17
      obtain rfl := smI H
      have p309 : 0 ≤ (af : Int) := of_decide_eq_true rfA
      have q309 : af < (aa.length : Int) := of_decide_eq_true rfA
      obtain ⟨ad309, e309, aw, ax⟩ := at_T33 (Kd.R_reads' ab.out).2.2 af p309 q309
      cases e309
      replace p309 := eq_true p309
      replace q309 := eq_true q309
      go_wp2_with (first | ((with_reducible refine gtC 9 ?_); refine xCb 49 Tryd.func9 (list_Pick.calls k1 _ _ aa ((rd_T33 aa af).f0) aC aD _ (cW (Kd.R_reads' ab.out).2.2) ((Kd.R_reads' ab.out).2.1) A16.out) fun w21 hb => ?_; replace ab := am (rB ab.out hb); replace ae := am (rB ae.out hb); replace ag := am (rB ag.out hb); replace HB := am (sTx HB.out hb); have p312 : 0 ≤ (af : Int) := of_decide_eq_true rfA; have q312 : af < (aa.length : Int) := of_decide_eq_true rfA; obtain ⟨ad312, e312, ay, az⟩ := at_T33 (Kd.R_reads' ab.out).2.2 af p312 q312; obtain rfl : ad309 = ad312 := (by injection e312); replace p312 := eq_true p312; replace q312 := eq_true q312))
      go_ret
      exact ⟨rfF, eTx HB.out⟩
    ·have aO := decide_eq_false c14
     clear c14
     have H' := Aside0.mk H
     clear H
     go_wp2
     go_loopg [12, 13] k1 (fun kq v12 v13 w' => ∃ (au : Int) (ac : Int), v12 = .int .i64 au ∧ v13 = .int .i64 ac ∧ Aside0 (graftwoodlaw17_ListPicks.l1 kq aa ad aj al au ac = some r) ∧ Aside0 (kq ≤ k1) ∧ Aside0 (Kd.R k33 33 w' w.heap.size (fun k_ => some k_ ≠ ((.slice aA ad.length aB) : Value).ownBlock) (.slice av aa.length ap) aa) ∧ Aside0 (Kd.R k33 33 w' w.heap.size (fun k_ => some k_ ≠ ((.slice av aa.length ap) : Value).ownBlock) (.slice aA ad.length aB) ad) ∧ Aside0 (Kd.R k41 41 w' w.heap.size (fun _ => True) aX al) ∧ Aside0 (Below w.heap.size w w'))
     case atStart => exact ⟨(0), (0), rfG, rfG, H', ⟨Nat.le_refl _⟩, ⟨rT ab.out⟩, ⟨rT ae.out⟩, ⟨rT ag.out⟩, ⟨eTx HB.out⟩⟩
     case round =>
      clear H'
      obtain ⟨au, ac, rfl, rfl, HA, HK2, ab, ae, ag, HB⟩ := hrel
      cases gk with
      | zero => exact absurd HA.out (by simp [graftwoodlaw17_ListPicks.l1])
      | succ k2 =>
       have H := HA.out
       clear HA
       simp only [graftwoodlaw17_ListPicks.l1] at H
       replace H := ifP H; rcases H with ⟨c22, H⟩ | ⟨c22, H⟩
       ·have a4 := decide_eq_true c22
        clear c22
        replace H := ifN H; obtain ⟨c23, H⟩ := H
        have a8 := decide_eq_true c23
        clear c23
        replace H := bnd H; obtain ⟨⟨aG, a9⟩, A24, H⟩ := H
        (try dsimp only at H)
        replace H := ifP H; rcases H with ⟨c25, H⟩ | ⟨c25, H⟩
        ·have a5 := beq_iff_eq.mpr c25
         have a6 := bne_eq_false_iff_eq.mpr c25
         clear c25
         have H' := Aside0.mk H
         clear H
         have p313 : 0 ≤ (ac : Int) := of_decide_eq_true rfA
         have q313 : ac < (aa.length : Int) := of_decide_eq_true rfA
         obtain ⟨ad313, e313, aJ, aK⟩ := at_T33 (Kd.R_reads' ab.out).2.2 ac p313 q313
         cases e313
         replace p313 := eq_true p313
         replace q313 := eq_true q313
         go_wp2_with (first | ((with_reducible refine gtC 9 ?_); refine xCb 76 Tryd.func9 (list_Pick.calls k2 _ _ ad ((rd_T33 aa ac).f0) aG a9 _ (cW (Kd.R_reads' ae.out).2.2) ((Kd.R_reads' ae.out).2.1) A24.out) fun w26 hb => ?_; replace ab := am (rB ab.out hb); replace ae := am (rB ae.out hb); replace ag := am (rB ag.out hb); replace HB := am (sTx HB.out hb); have p316 : 0 ≤ (ac : Int) := of_decide_eq_true rfA; have q316 : ac < (aa.length : Int) := of_decide_eq_true rfA; obtain ⟨ad316, e316, aL, aM⟩ := at_T33 (Kd.R_reads' ab.out).2.2 ac p316 q316; obtain rfl : ad313 = ad316 := (by injection e316); replace p316 := eq_true p316; replace q316 := eq_true q316))
         go_roundg k2
         case measure => have := HK1.out; have := HK2.out; omega
         case rel => exact ⟨(au), (wrap64 (ac + 1)), rfG, rfG, H', ⟨by have := HK1.out; have := HK2.out; omega⟩, ⟨rT ab.out⟩, ⟨rT ae.out⟩, ⟨rT ag.out⟩, ⟨eTx HB.out⟩⟩
        ·have a5 := beq_eq_false_iff_ne.mpr c25
         have a6 := bne_iff_ne.mpr c25
         have H' := Aside0.mk H
         clear H
         have p313 : 0 ≤ (ac : Int) := of_decide_eq_true rfA
         have q313 : ac < (aa.length : Int) := of_decide_eq_true rfA
         obtain ⟨ad313, e313, aJ, aK⟩ := at_T33 (Kd.R_reads' ab.out).2.2 ac p313 q313
         cases e313
         replace p313 := eq_true p313
         replace q313 := eq_true q313
         go_wp2_with (first | ((with_reducible refine gtC 9 ?_); refine xCb 76 Tryd.func9 (list_Pick.calls k2 _ _ ad ((rd_T33 aa ac).f0) aG a9 _ (cW (Kd.R_reads' ae.out).2.2) ((Kd.R_reads' ae.out).2.1) A24.out) fun w27 hb => ?_; replace ab := am (rB ab.out hb); replace ae := am (rB ae.out hb); replace ag := am (rB ag.out hb); replace HB := am (sTx HB.out hb); have p316 : 0 ≤ (ac : Int) := of_decide_eq_true rfA; have q316 : ac < (aa.length : Int) := of_decide_eq_true rfA; obtain ⟨ad316, e316, aL, aM⟩ := at_T33 (Kd.R_reads' ab.out).2.2 ac p316 q316; obtain rfl : ad313 = ad316 := (by injection e316); replace p316 := eq_true p316; replace q316 := eq_true q316))
         go_roundg k2
         case measure => have := HK1.out; have := HK2.out; omega
         case rel => exact ⟨(wrap64 (au + 1)), (wrap64 (ac + 1)), rfG, rfG, H', ⟨by have := HK1.out; have := HK2.out; omega⟩, ⟨rT ab.out⟩, ⟨rT ae.out⟩, ⟨rT ag.out⟩, ⟨eTx HB.out⟩⟩
       ·have a4 := decide_eq_false c22
        clear c22
        have H' := Aside0.mk H
        clear H
        go_wp2
        go_loopg [12, 16] k2 (fun kq v12 v16 w' => ∃ (an : Int) (ah : Int), v12 = .int .i64 an ∧ v16 = .int .i64 ah ∧ Aside0 (graftwoodlaw17_ListPicks.l2 kq aa ad aj al an ah = some r) ∧ Aside0 (kq ≤ k2) ∧ Aside0 (Kd.R k33 33 w' w.heap.size (fun k_ => some k_ ≠ ((.slice aA ad.length aB) : Value).ownBlock) (.slice av aa.length ap) aa) ∧ Aside0 (Kd.R k33 33 w' w.heap.size (fun k_ => some k_ ≠ ((.slice av aa.length ap) : Value).ownBlock) (.slice aA ad.length aB) ad) ∧ Aside0 (Kd.R k41 41 w' w.heap.size (fun _ => True) aX al) ∧ Aside0 (Below w.heap.size w w'))
        case atStart => exact ⟨(au), (0), rfG, rfG, H', ⟨Nat.le_refl _⟩, ⟨rT ab.out⟩, ⟨rT ae.out⟩, ⟨rT ag.out⟩, ⟨eTx HB.out⟩⟩
        case round =>
         clear H'
         obtain ⟨an, ah, rfl, rfl, HA, HK3, ab, ae, ag, HB⟩ := hrel
         cases gk with
         | zero => exact absurd HA.out (by simp [graftwoodlaw17_ListPicks.l2])
         | succ k3 =>
          have H := HA.out
          clear HA
          simp only [graftwoodlaw17_ListPicks.l2] at H
          replace H := ifP H; rcases H with ⟨c28, H⟩ | ⟨c28, H⟩
          ·have bb := decide_eq_true c28
           clear c28
           replace H := ifN H; obtain ⟨c29, H⟩ := H
           have bH := decide_eq_true c29
           clear c29
           replace H := bnd H; obtain ⟨⟨bc, aH⟩, A30, H⟩ := H
           (try dsimp only at H)
           replace H := ifP H; rcases H with ⟨c31, H⟩ | ⟨c31, H⟩
           ·have bf := beq_iff_eq.mpr c31
            have bg := bne_eq_false_iff_eq.mpr c31
            clear c31
            have H' := Aside0.mk H
            clear H
            have p317 : 0 ≤ (ah : Int) := of_decide_eq_true rfA
            have q317 : ah < (ad.length : Int) := of_decide_eq_true rfA
            obtain ⟨ad317, e317, aY, aZ⟩ := at_T33 (Kd.R_reads' ae.out).2.2 ah p317 q317
            cases e317
            replace p317 := eq_true p317
            replace q317 := eq_true q317
            go_wp2_with (first | ((with_reducible refine gtC 9 ?_); refine xCb 101 Tryd.func9 (list_Pick.calls k3 _ _ aa ((rd_T33 ad ah).f0) bc aH _ (cW (Kd.R_reads' ab.out).2.2) ((Kd.R_reads' ab.out).2.1) A30.out) fun w32 hb => ?_; replace ab := am (rB ab.out hb); replace ae := am (rB ae.out hb); replace ag := am (rB ag.out hb); replace HB := am (sTx HB.out hb)))
            go_roundg k3
            case measure => have := HK1.out; have := HK2.out; have := HK3.out; omega
            case rel => exact ⟨(wrap64 (an + 1)), (wrap64 (ah + 1)), rfG, rfG, H', ⟨by have := HK1.out; have := HK2.out; have := HK3.out; omega⟩, ⟨rT ab.out⟩, ⟨rT ae.out⟩, ⟨rT ag.out⟩, ⟨eTx HB.out⟩⟩
           ·have bf := beq_eq_false_iff_ne.mpr c31
            have bg := bne_iff_ne.mpr c31
            have H' := Aside0.mk H
            clear H
            have p317 : 0 ≤ (ah : Int) := of_decide_eq_true rfA
            have q317 : ah < (ad.length : Int) := of_decide_eq_true rfA
            obtain ⟨ad317, e317, aY, aZ⟩ := at_T33 (Kd.R_reads' ae.out).2.2 ah p317 q317
            cases e317
            replace p317 := eq_true p317
            replace q317 := eq_true q317
            go_wp2_with (first | ((with_reducible refine gtC 9 ?_); refine xCb 101 Tryd.func9 (list_Pick.calls k3 _ _ aa ((rd_T33 ad ah).f0) bc aH _ (cW (Kd.R_reads' ab.out).2.2) ((Kd.R_reads' ab.out).2.1) A30.out) fun w33 hb => ?_; replace ab := am (rB ab.out hb); replace ae := am (rB ae.out hb); replace ag := am (rB ag.out hb); replace HB := am (sTx HB.out hb)))
            go_roundg k3
            case measure => have := HK1.out; have := HK2.out; have := HK3.out; omega
            case rel => exact ⟨(an), (wrap64 (ah + 1)), rfG, rfG, H', ⟨by have := HK1.out; have := HK2.out; have := HK3.out; omega⟩, ⟨rT ab.out⟩, ⟨rT ae.out⟩, ⟨rT ag.out⟩, ⟨eTx HB.out⟩⟩
          ·have bb := decide_eq_false c28
           clear c28
           replace H := bnd H; obtain ⟨⟨aN, ar⟩, A34, H⟩ := H
           (try dsimp only at H)
           replace H := ifP H; rcases H with ⟨c35, H⟩ | ⟨c35, H⟩
           ·have bi := beq_iff_eq.mpr c35
            have bj := bne_eq_false_iff_eq.mpr c35
            clear c35
            replace H := bnd H; obtain ⟨ao, A36, H⟩ := H
            replace H := ifP H; rcases H with ⟨c37, H⟩ | ⟨c37, H⟩
            ·have bl := c37
             (try (have bm : decide ((ar == 0) = ao) = true := by simpa using c37))
             (try (have bo : ((ar == 0) == ao) = true := by simpa using c37))
             clear c37
             replace H := bnd H; obtain ⟨aE, A38, H⟩ := H
             obtain rfl := smI H
             go_wp2_with (first | ((with_reducible refine gtC 9 ?_); refine xCb 111 Tryd.func9 (list_Pick.calls k3 _ _ aa aj aN ar _ (cW (Kd.R_reads' ab.out).2.2) ((Kd.R_reads' ab.out).2.1) A34.out) fun w39 hb => ?_; replace ab := am (rB ab.out hb); replace ae := am (rB ae.out hb); replace ag := am (rB ag.out hb); replace HB := am (sTx HB.out hb); obtain ⟨bJ, bK, bv⟩ := Kd.R_slice ag.out; subst bv) | (go_at_call 10; (with_reducible refine (graftwoodref05_Has.calls k3 _ _ aa aj aN ao _ (cW (Kd.R_reads' ab.out).2.2) ((Kd.R_reads' ab.out).2.1) A36.out).mono ?_); rintro e w41 ⟨rfl, hb⟩; replace ab := am (rB ab.out hb); replace ae := am (rB ae.out hb); replace ag := am (rB ag.out hb); replace HB := am (sTx HB.out hb)) | (go_at_call 8; (with_reducible refine (graftwoodlaw17_awake.calls k3  aE _ A38.out).mono ?_); rintro e w42 ⟨rfl, hb⟩; replace ab := am (rB ab.out hb); replace ae := am (rB ae.out hb); replace ag := am (rB ag.out hb); replace HB := am (sTx HB.out hb)))
             go_ret
             exact ⟨rfF, eTx HB.out⟩
            ·have bl := Bool.eq_false_iff.mpr c37
             (try (have bm : decide ((ar == 0) = ao) = false := by simpa using c37))
             (try (have bo : ((ar == 0) == ao) = false := by simpa using c37))
             (try (have bI : ¬ ((ar == 0) = ao) := by simpa using c37))
             clear c37
             obtain rfl := smI H
             go_wp2_with (first | ((with_reducible refine gtC 9 ?_); refine xCb 111 Tryd.func9 (list_Pick.calls k3 _ _ aa aj aN ar _ (cW (Kd.R_reads' ab.out).2.2) ((Kd.R_reads' ab.out).2.1) A34.out) fun w43 hb => ?_; replace ab := am (rB ab.out hb); replace ae := am (rB ae.out hb); replace ag := am (rB ag.out hb); replace HB := am (sTx HB.out hb); obtain ⟨bL, bM, bw⟩ := Kd.R_slice ag.out; subst bw) | (go_at_call 10; (with_reducible refine (graftwoodref05_Has.calls k3 _ _ aa aj aN ao _ (cW (Kd.R_reads' ab.out).2.2) ((Kd.R_reads' ab.out).2.1) A36.out).mono ?_); rintro e w45 ⟨rfl, hb⟩; replace ab := am (rB ab.out hb); replace ae := am (rB ae.out hb); replace ag := am (rB ag.out hb); replace HB := am (sTx HB.out hb)))
             go_ret
             exact ⟨rfF, eTx HB.out⟩
           ·have bi := beq_eq_false_iff_ne.mpr c35
            have bj := bne_iff_ne.mpr c35
            obtain rfl := smI H
            go_wp2_with (first | ((with_reducible refine gtC 9 ?_); refine xCb 111 Tryd.func9 (list_Pick.calls k3 _ _ aa aj aN ar _ (cW (Kd.R_reads' ab.out).2.2) ((Kd.R_reads' ab.out).2.1) A34.out) fun w46 hb => ?_; replace ab := am (rB ab.out hb); replace ae := am (rB ae.out hb); replace ag := am (rB ag.out hb); replace HB := am (sTx HB.out hb); obtain ⟨bN, bO, bx⟩ := Kd.R_slice ag.out; subst bx))
            go_ret
            exact ⟨rfF, eTx HB.out⟩
 ·have aV := beq_eq_false_iff_ne.mpr c8
  have aW := bne_iff_ne.mpr c8
  replace H := bnd H; obtain ⟨aq, A48, H⟩ := H
  obtain rfl := smI H
  go_enter Tryd.func3, Tryd.ntmps3
  go_wp2_with (first | ((with_reducible refine gtC 5 ?_); refine xCl 22 Tryd.func5 (graftwoodlaw05_Few.calls k _ _ l0 aa _ (cW (HR0.out)) HC0.out A4.out) ?_; rintro e w49 ⟨br, rfl, ho0, hb⟩; refine ⟨_, rfl, ?_⟩; have ai := am (Kd.R_lower ho0 (below_size (eTx HB.out))); replace HB := am (sTx HB.out hb)) | ((with_reducible refine gtC 5 ?_); refine xCl 24 Tryd.func5 (graftwoodlaw05_Few.calls k _ _ l1 ad _ (cW (Kd.C_below HR1.out HB.out)) HC1.out A5.out) ?_; rintro e w50 ⟨bs, rfl, ho0, hb⟩; refine ⟨_, rfl, ?_⟩; have ak := am (Kd.R_lower (Kd.R_new' ho0 (Kd.R_lt (rT ai.out))) (below_size (eTx HB.out))); replace ai := am (Kd.R_elder' (rT ai.out) (Kd.R_base ho0) hb); replace HB := am (sTx HB.out hb)) | ((with_reducible refine gtC 6 ?_); refine xCz 26 Tryd.func6 (graftwoodlaw01_Few.calls a2 aj _ A6.out) fun nd => ?_; obtain ⟨bz, bC, bD⟩ := Kd.R_slice ai.out; subst bD; obtain ⟨bE, bF, bG⟩ := Kd.R_slice ak.out; subst bG) | ((with_reducible refine gtC 7 ?_); refine xCl 30 Tryd.func7 (list_Delta.calls k _ _ aa _ _ ad al aF _ (cW (Kd.R_reads' ai.out).2.2) ((Kd.R_reads' ai.out).2.1) (cW (Kd.R_reads' ak.out).2.2) ((Kd.R_reads' ak.out).2.1) A7.out) ?_; rintro e w53 ⟨aX, rfl, ho0, hb⟩; refine ⟨_, rfl, ?_⟩; replace ai := am (rB ai.out hb); replace ak := am (rB ak.out hb); have aI := am (Kd.R_lower ho0 (below_size (eTx HB.out))); replace HB := am (sTx HB.out hb)) | ((with_reducible refine gtC 8 ?_); refine xCb 35 Tryd.func8 (graftwoodlaw17_awake.calls k  aq _ A48.out) fun w54 hb => ?_; replace ai := am (rB ai.out hb); replace ak := am (rB ak.out hb); replace aI := am (rB aI.out hb); replace HB := am (sTx HB.out hb)))
  go_ret
  exact ⟨rfF, eTx HB.out⟩

end Go.Proofs.YtknmfmedklfepaaDoor.P
