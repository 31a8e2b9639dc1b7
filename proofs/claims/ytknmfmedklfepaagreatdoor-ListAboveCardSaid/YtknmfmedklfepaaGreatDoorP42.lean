-- half the indentation
import Derived.Test.YtknmfmedklfepaaGreatDoorSqz
import Derived.Test.YtknmfmedklfepaaGreatDoorP0
import Derived.Test.YtknmfmedklfepaaGreatDoorP4
import Derived.Test.YtknmfmedklfepaaGreatDoorP30
import Derived.Test.YtknmfmedklfepaaGreatDoorP36
import Derived.Test.YtknmfmedklfepaaGreatDoorP37
import Derived.Test.YtknmfmedklfepaaGreatDoorP41
namespace Go.Proofs.YtknmfmedklfepaaGreatDoor.P
open Go.RowKit Go.Proofs.YtknmfmedklfepaaGreatDoorW.PrintWords Go.Proofs.YtknmfmedklfepaaGreatDoorW.PrintLast Go.Proofs.YtknmfmedklfepaaGreatDoorW.PrintMore
attribute [local go_sem] max2_int min2_int max_two min_two max_three min_three max_four min_four
set_option linter.unusedVariables false
set_option linter.unusedSimpArgs false
set_option maxHeartbeats 8000000
set_option maxRecDepth 100000

/-! ### graftwoodlaw17_ListAbove: function 4 -/
def graftwoodlaw17_ListAbove.j0 : Nat → List (S55) → List (S55) → Bool → Int → Bool → Option (Bool)
 | 0, _, _, _, _, _ => none
 | k + 1, x0, x1, x5, x6, x24 => if x24 = true then (if x5 = true then (some false) else (if x6 = 1 then ((graftwoodlaw17_awake.f k).bind fun al => (some al)) else (some false))) else ((graftwoodref17_Above.f k x0 x1).bind fun ah => (if (x5 == ah) = true then (if x6 = 0 then ((graftwoodlaw17_awake.f k).bind fun an => (some an)) else (some false)) else (some false)))
def graftwoodlaw17_ListAbove.f (k : Nat) (l0 : List (S55)) (l1 : List (S55)) : Option (Bool) := (graftwoodlaw05_Few.f k l0).bind fun aa => ((graftwoodlaw05_Few.f k l1).bind fun ab => ((list_Above.f k aa ab).bind fun bt498 => ((graftwoodref17_May.f k aa).bind fun ak => (if ak = true then ((graftwoodref17_May.f k ab).bind fun ag => (graftwoodlaw17_ListAbove.j0 k aa ab bt498.1 bt498.2 (!ag))) else (graftwoodlaw17_ListAbove.j0 k aa ab bt498.1 bt498.2 true)))))
theorem graftwoodlaw17_ListAbove.mono_l : ∀ k, (∀ y0 y1 y2 y3 y4, LeO (graftwoodlaw17_ListAbove.j0 k y0 y1 y2 y3 y4) (graftwoodlaw17_ListAbove.j0 (k + 1) y0 y1 y2 y3 y4))
 | 0 => fun _ _ _ _ _ r h => by simp [graftwoodlaw17_ListAbove.j0] at h
 | k + 1 => by
  have ih0 := graftwoodlaw17_ListAbove.mono_l k
  ·intro y0 y1 y2 y3 y4
   unfold graftwoodlaw17_ListAbove.j0
   repeat' first | (with_reducible first | apply ih0 | apply graftwoodlaw05_Few.mono | apply graftwoodlaw17_awake.mono | apply graftwoodref17_Above.mono | apply graftwoodref17_May.mono | apply list_Above.mono | apply LeO.refl | apply LeO.none | apply LeO.ite | refine LeO.bind ?_ (fun _ => ?_)) | apply ih0 | apply graftwoodlaw05_Few.mono | apply graftwoodlaw17_awake.mono | apply graftwoodref17_Above.mono | apply graftwoodref17_May.mono | apply list_Above.mono | exact LeO.none _ | refine LeO.ite ?_ ?_ | refine LeO.bind ?_ (fun _ => ?_)
theorem graftwoodlaw17_ListAbove.mono : ∀ a0 a1 k, LeO (graftwoodlaw17_ListAbove.f k a0 a1) (graftwoodlaw17_ListAbove.f (k + 1) a0 a1) := by
 intro a0 a1 k
 have ih0 := graftwoodlaw17_ListAbove.mono_l k
 unfold graftwoodlaw17_ListAbove.f
 repeat' first | (with_reducible first | apply ih0 | apply graftwoodlaw05_Few.mono | apply graftwoodlaw17_awake.mono | apply graftwoodref17_Above.mono | apply graftwoodref17_May.mono | apply list_Above.mono | apply LeO.refl | apply LeO.none | apply LeO.ite | refine LeO.bind ?_ (fun _ => ?_)) | apply ih0 | apply graftwoodlaw05_Few.mono | apply graftwoodlaw17_awake.mono | apply graftwoodref17_Above.mono | apply graftwoodref17_May.mono | apply list_Above.mono | exact LeO.none _ | refine LeO.ite ?_ ?_ | refine LeO.bind ?_ (fun _ => ?_)
theorem graftwoodlaw17_ListAbove.calls (k : Nat) (A0 : Option Addr) (c0 : Nat) (l0 : List (S55)) (A1 : Option Addr) (c1 : Nat) (l1 : List (S55)) (r : Bool) (w : World) (hr0 : Kd.C k55 w A0 l0.length l0) (hc0 : l0.length ≤ c0) (hr1 : Kd.C k55 w A1 l1.length l1) (hc1 : l1.length ≤ c1) (h : graftwoodlaw17_ListAbove.f k l0 l1 = some r) :
  Calls Tryz.prog 4 #[.slice A0 l0.length c0, .slice A1 l1.length c1] w fun e w' => e = .returned (.bool r) ∧ Below w.heap.size w w' := by
 have HR0 := Aside0.mk hr0
 have HC0 := Aside0.mk hc0
 clear hr0 hc0
 have HR1 := Aside0.mk hr1
 have HC1 := Aside0.mk hc1
 clear hr1 hc1
 have HB := am (Below.refl w.heap.size w)
 unfold graftwoodlaw17_ListAbove.f at h; have H := h; clear h
 replace H := bnd H; obtain ⟨aa, A3, H⟩ := H
 replace H := bnd H; obtain ⟨ab, A4, H⟩ := H
 replace H := bnd H; obtain ⟨⟨af, ad⟩, A5, H⟩ := H
 (try dsimp only at H)
 have HC6 := Aside0.mk H
 clear H
 go_enter Tryz.func4, Tryz.ntmps4
 go_upto_region 3 with (first | ((with_reducible refine gtC 7 ?_); refine xCl 8 Tryz.func7 (graftwoodlaw05_Few.calls k _ _ l0 aa _ (cW (HR0.out)) HC0.out A3.out) ?_; rintro e w7 ⟨aH, rfl, ho0, hb⟩; refine ⟨_, rfl, ?_⟩; have ac := am (Kd.R_lower ho0 (below_size (eTx HB.out))); replace HB := am (sTx HB.out hb)) | ((with_reducible refine gtC 7 ?_); refine xCl 10 Tryz.func7 (graftwoodlaw05_Few.calls k _ _ l1 ab _ (cW (Kd.C_below HR1.out HB.out)) HC1.out A4.out) ?_; rintro e w8 ⟨aI, rfl, ho0, hb⟩; refine ⟨_, rfl, ?_⟩; have ae := am (Kd.R_lower (Kd.R_new' ho0 (Kd.R_lt (rT ac.out))) (below_size (eTx HB.out))); replace ac := am (Kd.R_elder' (rT ac.out) (Kd.R_base ho0) hb); replace HB := am (sTx HB.out hb); obtain ⟨Ao9, co9, eo9⟩ := Kd.R_slice ac.out; subst eo9; obtain ⟨ap, aq, aF⟩ := Kd.R_slice ae.out; subst aF) | ((with_reducible refine gtC 20 ?_); refine xCb 14 Tryz.func20 (list_Above.calls k _ _ aa _ _ ab af ad _ (cW (Kd.R_reads' ac.out).2.2) ((Kd.R_reads' ac.out).2.1) (cW (Kd.R_reads' ae.out).2.2) ((Kd.R_reads' ae.out).2.1) A5.out) fun w11 hb => ?_; replace ac := am (rB ac.out hb); replace ae := am (rB ae.out hb); replace HB := am (sTx HB.out hb)))
 (try simp only [Act.put, List.setIfInBounds_toArray, List.set_cons_zero, List.set_cons_succ])
 go_cut [24] (fun v24 wc => ∃ (kq : Nat) (ao : Bool), v24 = .bool ao ∧ Aside0 (graftwoodlaw17_ListAbove.j0 kq aa ab af ad ao = some r) ∧ Aside0 (kq ≤ k) ∧ Aside0 (Kd.R k55 55 wc w.heap.size (fun k_ => some k_ ≠ ((.slice ap ab.length aq) : Value).ownBlock) (.slice Ao9 aa.length co9) aa) ∧ Aside0 (Kd.R k55 55 wc w.heap.size (fun k_ => some k_ ≠ ((.slice Ao9 aa.length co9) : Value).ownBlock) (.slice ap ab.length aq) ab) ∧ Aside0 (Below w.heap.size w wc))
 case first =>
  have H := HC6.out
  clear HC6
  replace H := bnd H; obtain ⟨ak, A12, H⟩ := H
  replace H := ifB H; rcases H with ⟨rfl, H⟩ | ⟨rfl, H⟩
  ·replace H := bnd H; obtain ⟨ag, A14, H⟩ := H
   have H' := Aside0.mk H
   clear H
   go_wp2_with (first | ((with_reducible refine gtC 13 ?_); refine xCb 18 Tryz.func13 (graftwoodref17_May.calls k _ _ aa true _ (cW (Kd.R_reads' ac.out).2.2) ((Kd.R_reads' ac.out).2.1) A12.out) fun w15 hb => ?_; replace ac := am (rB ac.out hb); replace ae := am (rB ae.out hb); replace HB := am (sTx HB.out hb)) | (go_at_call 13; (with_reducible refine (graftwoodref17_May.calls k _ _ ab ag _ (cW (Kd.R_reads' ae.out).2.2) ((Kd.R_reads' ae.out).2.1) A14.out).mono ?_); rintro e w16 ⟨rfl, hb⟩; replace ac := am (rB ac.out hb); replace ae := am (rB ae.out hb); replace HB := am (sTx HB.out hb)))
   go_meet
   case rel => exact ⟨_, (!ag), rfG, H', ⟨rfO⟩, ⟨by (with_reducible repeat (first | apply Kd.R_alloc | apply Kd.R_drewN | apply Kd.R_drew)); exact Kd.R_mono ac.out (fun _ hk => hk.2)⟩, ⟨by (with_reducible repeat (first | apply Kd.R_alloc | apply Kd.R_drewN | apply Kd.R_drew)); exact Kd.R_mono ae.out (fun _ hk => hk.2)⟩, ⟨eTx HB.out⟩⟩
  ·have H' := Aside0.mk H
   clear H
   go_wp2_with (first | ((with_reducible refine gtC 13 ?_); refine xCb 18 Tryz.func13 (graftwoodref17_May.calls k _ _ aa false _ (cW (Kd.R_reads' ac.out).2.2) ((Kd.R_reads' ac.out).2.1) A12.out) fun w17 hb => ?_; replace ac := am (rB ac.out hb); replace ae := am (rB ae.out hb); replace HB := am (sTx HB.out hb)))
   go_meet
   case rel => exact ⟨_, (true), rfG, H', ⟨rfO⟩, ⟨by (with_reducible repeat (first | apply Kd.R_alloc | apply Kd.R_drewN | apply Kd.R_drew)); exact Kd.R_mono ac.out (fun _ hk => hk.2)⟩, ⟨by (with_reducible repeat (first | apply Kd.R_alloc | apply Kd.R_drewN | apply Kd.R_drew)); exact Kd.R_mono ae.out (fun _ hk => hk.2)⟩, ⟨eTx HB.out⟩⟩
 case rest =>
  clear HC6
  obtain ⟨kq, ao, rfl, HA, HJ5, ai, aj, HB⟩ := hcut
  cases kq with
  | zero => exact absurd HA.out (by simp [graftwoodlaw17_ListAbove.j0])
  | succ kj5 =>
   have H := HA.out
   clear HA
   simp only [graftwoodlaw17_ListAbove.j0] at H
   replace H := ifB H; rcases H with ⟨rfl, H⟩ | ⟨rfl, H⟩
   ·replace H := ifB H; rcases H with ⟨rfl, H⟩ | ⟨rfl, H⟩
    ·obtain rfl := smI H
     go_wp2
     go_ret
     exact ⟨rfF, eTx HB.out⟩
    ·replace H := ifP H; rcases H with ⟨c20, H⟩ | ⟨c20, H⟩
     ·have av := beq_iff_eq.mpr c20
      have aw := bne_eq_false_iff_eq.mpr c20
      clear c20
      replace H := bnd H; obtain ⟨al, A21, H⟩ := H
      obtain rfl := smI H
      go_wp2_with (first | (go_at_call 18; (with_reducible refine (graftwoodlaw17_awake.calls kj5  al _ A21.out).mono ?_); rintro e w22 ⟨rfl, hb⟩; replace ai := am (rB ai.out hb); replace aj := am (rB aj.out hb); replace HB := am (sTx HB.out hb)))
      go_ret
      exact ⟨rfF, eTx HB.out⟩
     ·have av := beq_eq_false_iff_ne.mpr c20
      have aw := bne_iff_ne.mpr c20
      obtain rfl := smI H
      go_wp2
      go_ret
      exact ⟨rfF, eTx HB.out⟩
   ·replace H := bnd H; obtain ⟨ah, A23, H⟩ := H
    replace H := ifP H; rcases H with ⟨c24, H⟩ | ⟨c24, H⟩
    ·have az := c24
     (try (have aA : decide (af = ah) = true := by simpa using c24))
     (try (have aB : (af == ah) = true := by simpa using c24))
     clear c24
     replace H := ifP H; rcases H with ⟨c25, H⟩ | ⟨c25, H⟩
     ·have aC := beq_iff_eq.mpr c25
      have aD := bne_eq_false_iff_eq.mpr c25
      clear c25
      replace H := bnd H; obtain ⟨an, A26, H⟩ := H
      obtain rfl := smI H
      go_wp2_with (first | ((with_reducible refine gtC 21 ?_); refine xCb 37 Tryz.func21 (graftwoodref17_Above.calls kj5 _ _ aa _ _ ab ah _ (cW (Kd.R_reads' ai.out).2.2) ((Kd.R_reads' ai.out).2.1) (cW (Kd.R_reads' aj.out).2.2) ((Kd.R_reads' aj.out).2.1) A23.out) fun w27 hb => ?_; replace ai := am (rB ai.out hb); replace aj := am (rB aj.out hb); replace HB := am (sTx HB.out hb)) | (go_at_call 18; (with_reducible refine (graftwoodlaw17_awake.calls kj5  an _ A26.out).mono ?_); rintro e w28 ⟨rfl, hb⟩; replace ai := am (rB ai.out hb); replace aj := am (rB aj.out hb); replace HB := am (sTx HB.out hb)))
      go_ret
      exact ⟨rfF, eTx HB.out⟩
     ·have aC := beq_eq_false_iff_ne.mpr c25
      have aD := bne_iff_ne.mpr c25
      obtain rfl := smI H
      go_wp2_with (first | ((with_reducible refine gtC 21 ?_); refine xCb 37 Tryz.func21 (graftwoodref17_Above.calls kj5 _ _ aa _ _ ab ah _ (cW (Kd.R_reads' ai.out).2.2) ((Kd.R_reads' ai.out).2.1) (cW (Kd.R_reads' aj.out).2.2) ((Kd.R_reads' aj.out).2.1) A23.out) fun w29 hb => ?_; replace ai := am (rB ai.out hb); replace aj := am (rB aj.out hb); replace HB := am (sTx HB.out hb)))
      go_ret
      exact ⟨rfF, eTx HB.out⟩
    ·have az := Bool.eq_false_iff.mpr c24
     (try (have aA : decide (af = ah) = false := by simpa using c24))
     (try (have aB : (af == ah) = false := by simpa using c24))
     (try (have aG : ¬ (af = ah) := by simpa using c24))
     clear c24
     obtain rfl := smI H
     go_wp2_with (first | ((with_reducible refine gtC 21 ?_); refine xCb 37 Tryz.func21 (graftwoodref17_Above.calls kj5 _ _ aa _ _ ab ah _ (cW (Kd.R_reads' ai.out).2.2) ((Kd.R_reads' ai.out).2.1) (cW (Kd.R_reads' aj.out).2.2) ((Kd.R_reads' aj.out).2.1) A23.out) fun w30 hb => ?_; replace ai := am (rB ai.out hb); replace aj := am (rB aj.out hb); replace HB := am (sTx HB.out hb)))
     go_ret
     exact ⟨rfF, eTx HB.out⟩

end Go.Proofs.YtknmfmedklfepaaGreatDoor.P
