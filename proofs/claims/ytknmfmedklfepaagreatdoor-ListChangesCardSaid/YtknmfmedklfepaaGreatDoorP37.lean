-- half the indentation
import Derived.Test.YtknmfmedklfepaaGreatDoorSqz
import Derived.Test.YtknmfmedklfepaaGreatDoorP0
import Derived.Test.YtknmfmedklfepaaGreatDoorP4
import Derived.Test.YtknmfmedklfepaaGreatDoorP10
import Derived.Test.YtknmfmedklfepaaGreatDoorP31
import Derived.Test.YtknmfmedklfepaaGreatDoorP32
import Derived.Test.YtknmfmedklfepaaGreatDoorP33
import Derived.Test.YtknmfmedklfepaaGreatDoorP35
import Derived.Test.YtknmfmedklfepaaGreatDoorP36
namespace Go.Proofs.YtknmfmedklfepaaGreatDoor.P
open Go.RowKit Go.Proofs.YtknmfmedklfepaaGreatDoorW.PrintWords Go.Proofs.YtknmfmedklfepaaGreatDoorW.PrintLast Go.Proofs.YtknmfmedklfepaaGreatDoorW.PrintMore
attribute [local go_sem] max2_int min2_int max_two min_two max_three min_three max_four min_four
set_option linter.unusedVariables false
set_option linter.unusedSimpArgs false
set_option maxHeartbeats 8000000
set_option maxRecDepth 100000

/-! ### graftwoodlaw17_ListChanges: function 5 -/
mutual
def graftwoodlaw17_ListChanges.j0 : Nat → List (S55) → List (S55) → List (S75) → List (S75) → Int → List (S55) → Int → Bool → Option (Bool)
 | 0, _, _, _, _, _, _, _, _ => none
 | k + 1, x0, x1, x2, x7, x8, x9, x10, x38 => if x38 = true then (if (x9.length : Int) > 0 then (some false) else (if x10 = 1 then (graftwoodlaw17_ListChanges.j1 k x0 x1 x7 x8) else (some false))) else ((graftwoodref17_Apply.f k x0 x2).bind fun bt557 => (if bt557.2 = true then ((graftwoodref05_Same.f k x9 bt557.1).bind fun aG => (if aG = true then (if x10 = 0 then (graftwoodlaw17_ListChanges.j1 k x0 x1 x7 x8) else (some false)) else (some false))) else (if (x9.length : Int) > 0 then (some false) else (if x10 = 2 then (graftwoodlaw17_ListChanges.j1 k x0 x1 x7 x8) else (some false)))))
def graftwoodlaw17_ListChanges.j1 : Nat → List (S55) → List (S55) → List (S75) → Int → Option (Bool)
 | 0, _, _, _, _ => none
 | k + 1, x0, x1, x7, x8 => (graftwoodref17_May.f k x0).bind fun a3 => (if a3 = true then ((graftwoodref17_May.f k x1).bind fun aH => (graftwoodlaw17_ListChanges.j2 k x0 x1 x7 x8 (!aH))) else (graftwoodlaw17_ListChanges.j2 k x0 x1 x7 x8 true))
def graftwoodlaw17_ListChanges.j2 : Nat → List (S55) → List (S55) → List (S75) → Int → Bool → Option (Bool)
 | 0, _, _, _, _, _ => none
 | k + 1, x0, x1, x7, x8, x83 => if x83 = true then (if (x7.length : Int) = 0 then (if x8 = 1 then ((graftwoodlaw17_awake.f k).bind fun aN => (some aN)) else (some false)) else (some false)) else ((graftwoodref17_Delta.f k x0 x1).bind fun az => ((graftwoodref17_SameChanges.f k x7 az).bind fun aL => (if aL = true then (if x8 = 0 then ((graftwoodlaw17_awake.f k).bind fun aB => (some aB)) else (some false)) else (some false))))
end
def graftwoodlaw17_ListChanges.f (k : Nat) (l0 : List (S55)) (l1 : List (S55)) (l2 : List (S75)) : Option (Bool) := (graftwoodlaw05_Few.f k l0).bind fun aa => ((graftwoodlaw05_Few.f k l1).bind fun ab => ((graftwoodlaw17_Few.f k l2).bind fun ad => ((list_Delta.f k aa ab).bind fun bt547 => ((list_Apply.f k aa ad).bind fun bt551 => ((graftwoodref17_May.f k aa).bind fun ax => (if ax = true then ((graftwoodref17_Changes.f k ad).bind fun av => (graftwoodlaw17_ListChanges.j0 k aa ab ad bt547.1 bt547.2 bt551.1 bt551.2 (!av))) else (graftwoodlaw17_ListChanges.j0 k aa ab ad bt547.1 bt547.2 bt551.1 bt551.2 true)))))))
theorem graftwoodlaw17_ListChanges.mono_l : ∀ k, (∀ y0 y1 y2 y3 y4 y5 y6 y7, LeO (graftwoodlaw17_ListChanges.j0 k y0 y1 y2 y3 y4 y5 y6 y7) (graftwoodlaw17_ListChanges.j0 (k + 1) y0 y1 y2 y3 y4 y5 y6 y7)) ∧ (∀ y0 y1 y2 y3, LeO (graftwoodlaw17_ListChanges.j1 k y0 y1 y2 y3) (graftwoodlaw17_ListChanges.j1 (k + 1) y0 y1 y2 y3)) ∧ (∀ y0 y1 y2 y3 y4, LeO (graftwoodlaw17_ListChanges.j2 k y0 y1 y2 y3 y4) (graftwoodlaw17_ListChanges.j2 (k + 1) y0 y1 y2 y3 y4))
 | 0 => ⟨fun _ _ _ _ _ _ _ _ r h => by simp [graftwoodlaw17_ListChanges.j0] at h, fun _ _ _ _ r h => by simp [graftwoodlaw17_ListChanges.j1] at h, fun _ _ _ _ _ r h => by simp [graftwoodlaw17_ListChanges.j2] at h⟩
 | k + 1 => by
  obtain ⟨ih0, ih1, ih2⟩ := graftwoodlaw17_ListChanges.mono_l k
  refine ⟨?_, ?_, ?_⟩
  ·intro y0 y1 y2 y3 y4 y5 y6 y7
   unfold graftwoodlaw17_ListChanges.j0
   repeat' first | (with_reducible first | apply ih0 | apply ih1 | apply ih2 | apply graftwoodlaw05_Few.mono | apply graftwoodlaw17_Few.mono | apply graftwoodlaw17_awake.mono | apply graftwoodref05_Same.mono | apply graftwoodref17_Apply.mono | apply graftwoodref17_Changes.mono | apply graftwoodref17_Delta.mono | apply graftwoodref17_May.mono | apply graftwoodref17_SameChanges.mono | apply list_Apply.mono | apply list_Delta.mono | apply LeO.refl | apply LeO.none | apply LeO.ite | refine LeO.bind ?_ (fun _ => ?_)) | apply ih0 | apply ih1 | apply ih2 | apply graftwoodlaw05_Few.mono | apply graftwoodlaw17_Few.mono | apply graftwoodlaw17_awake.mono | apply graftwoodref05_Same.mono | apply graftwoodref17_Apply.mono | apply graftwoodref17_Changes.mono | apply graftwoodref17_Delta.mono | apply graftwoodref17_May.mono | apply graftwoodref17_SameChanges.mono | apply list_Apply.mono | apply list_Delta.mono | exact LeO.none _ | refine LeO.ite ?_ ?_ | refine LeO.bind ?_ (fun _ => ?_)
  ·intro y0 y1 y2 y3
   unfold graftwoodlaw17_ListChanges.j1
   repeat' first | (with_reducible first | apply ih0 | apply ih1 | apply ih2 | apply graftwoodlaw05_Few.mono | apply graftwoodlaw17_Few.mono | apply graftwoodlaw17_awake.mono | apply graftwoodref05_Same.mono | apply graftwoodref17_Apply.mono | apply graftwoodref17_Changes.mono | apply graftwoodref17_Delta.mono | apply graftwoodref17_May.mono | apply graftwoodref17_SameChanges.mono | apply list_Apply.mono | apply list_Delta.mono | apply LeO.refl | apply LeO.none | apply LeO.ite | refine LeO.bind ?_ (fun _ => ?_)) | apply ih0 | apply ih1 | apply ih2 | apply graftwoodlaw05_Few.mono | apply graftwoodlaw17_Few.mono | apply graftwoodlaw17_awake.mono | apply graftwoodref05_Same.mono | apply graftwoodref17_Apply.mono | apply graftwoodref17_Changes.mono | apply graftwoodref17_Delta.mono | apply graftwoodref17_May.mono | apply graftwoodref17_SameChanges.mono | apply list_Apply.mono | apply list_Delta.mono | exact LeO.none _ | refine LeO.ite ?_ ?_ | refine LeO.bind ?_ (fun _ => ?_)
  ·intro y0 y1 y2 y3 y4
   unfold graftwoodlaw17_ListChanges.j2
   repeat' first | (with_reducible first | apply ih0 | apply ih1 | apply ih2 | apply graftwoodlaw05_Few.mono | apply graftwoodlaw17_Few.mono | apply graftwoodlaw17_awake.mono | apply graftwoodref05_Same.mono | apply graftwoodref17_Apply.mono | apply graftwoodref17_Changes.mono | apply graftwoodref17_Delta.mono | apply graftwoodref17_May.mono | apply graftwoodref17_SameChanges.mono | apply list_Apply.mono | apply list_Delta.mono | apply LeO.refl | apply LeO.none | apply LeO.ite | refine LeO.bind ?_ (fun _ => ?_)) | apply ih0 | apply ih1 | apply ih2 | apply graftwoodlaw05_Few.mono | apply graftwoodlaw17_Few.mono | apply graftwoodlaw17_awake.mono | apply graftwoodref05_Same.mono | apply graftwoodref17_Apply.mono | apply graftwoodref17_Changes.mono | apply graftwoodref17_Delta.mono | apply graftwoodref17_May.mono | apply graftwoodref17_SameChanges.mono | apply list_Apply.mono | apply list_Delta.mono | exact LeO.none _ | refine LeO.ite ?_ ?_ | refine LeO.bind ?_ (fun _ => ?_)
theorem graftwoodlaw17_ListChanges.mono : ∀ a0 a1 a2 k, LeO (graftwoodlaw17_ListChanges.f k a0 a1 a2) (graftwoodlaw17_ListChanges.f (k + 1) a0 a1 a2) := by
 intro a0 a1 a2 k
 obtain ⟨ih0, ih1, ih2⟩ := graftwoodlaw17_ListChanges.mono_l k
 unfold graftwoodlaw17_ListChanges.f
 repeat' first | (with_reducible first | apply ih0 | apply ih1 | apply ih2 | apply graftwoodlaw05_Few.mono | apply graftwoodlaw17_Few.mono | apply graftwoodlaw17_awake.mono | apply graftwoodref05_Same.mono | apply graftwoodref17_Apply.mono | apply graftwoodref17_Changes.mono | apply graftwoodref17_Delta.mono | apply graftwoodref17_May.mono | apply graftwoodref17_SameChanges.mono | apply list_Apply.mono | apply list_Delta.mono | apply LeO.refl | apply LeO.none | apply LeO.ite | refine LeO.bind ?_ (fun _ => ?_)) | apply ih0 | apply ih1 | apply ih2 | apply graftwoodlaw05_Few.mono | apply graftwoodlaw17_Few.mono | apply graftwoodlaw17_awake.mono | apply graftwoodref05_Same.mono | apply graftwoodref17_Apply.mono | apply graftwoodref17_Changes.mono | apply graftwoodref17_Delta.mono | apply graftwoodref17_May.mono | apply graftwoodref17_SameChanges.mono | apply list_Apply.mono | apply list_Delta.mono | exact LeO.none _ | refine LeO.ite ?_ ?_ | refine LeO.bind ?_ (fun _ => ?_)
theorem graftwoodlaw17_ListChanges.calls (k : Nat) (A0 : Option Addr) (c0 : Nat) (l0 : List (S55)) (A1 : Option Addr) (c1 : Nat) (l1 : List (S55)) (A2 : Option Addr) (c2 : Nat) (l2 : List (S75)) (r : Bool) (w : World) (hr0 : Kd.C k55 w A0 l0.length l0) (hc0 : l0.length ≤ c0) (hr1 : Kd.C k55 w A1 l1.length l1) (hc1 : l1.length ≤ c1) (hr2 : Kd.C k75 w A2 l2.length l2) (hc2 : l2.length ≤ c2) (h : graftwoodlaw17_ListChanges.f k l0 l1 l2 = some r) :
  Calls Tryz.prog 5 #[.slice A0 l0.length c0, .slice A1 l1.length c1, .slice A2 l2.length c2] w fun e w' => e = .returned (.bool r) ∧ Below w.heap.size w w' := by
 have HR0 := Aside0.mk hr0
 have HC0 := Aside0.mk hc0
 clear hr0 hc0
 have HR1 := Aside0.mk hr1
 have HC1 := Aside0.mk hc1
 clear hr1 hc1
 have HR2 := Aside0.mk hr2
 have HC2 := Aside0.mk hc2
 clear hr2 hc2
 have HB := am (Below.refl w.heap.size w)
 unfold graftwoodlaw17_ListChanges.f at h; have H := h; clear h
 replace H := bnd H; obtain ⟨aa, A4, H⟩ := H
 replace H := bnd H; obtain ⟨ab, A5, H⟩ := H
 replace H := bnd H; obtain ⟨ad, A6, H⟩ := H
 replace H := bnd H; obtain ⟨⟨ag, ah⟩, A7, H⟩ := H
 (try dsimp only at H)
 replace H := bnd H; obtain ⟨⟨al, aj⟩, A8, H⟩ := H
 (try dsimp only at H)
 have HC9 := Aside0.mk H
 clear H
 go_enter Tryz.func5, Tryz.ntmps5
 go_upto_region 4 with (first | ((with_reducible refine gtC 7 ?_); refine xCl 14 Tryz.func7 (graftwoodlaw05_Few.calls k _ _ l0 aa _ (cW (HR0.out)) HC0.out A4.out) ?_; rintro e w10 ⟨b9, rfl, ho0, hb⟩; refine ⟨_, rfl, ?_⟩; have ai := am (Kd.R_lower ho0 (below_size (eTx HB.out))); replace HB := am (sTx HB.out hb)) | ((with_reducible refine gtC 7 ?_); refine xCl 16 Tryz.func7 (graftwoodlaw05_Few.calls k _ _ l1 ab _ (cW (Kd.C_below HR1.out HB.out)) HC1.out A5.out) ?_; rintro e w11 ⟨b_, rfl, ho0, hb⟩; refine ⟨_, rfl, ?_⟩; have an := am (Kd.R_lower (Kd.R_new' ho0 (Kd.R_lt (rT ai.out))) (below_size (eTx HB.out))); replace ai := am (Kd.R_elder' (rT ai.out) (Kd.R_base ho0) hb); replace HB := am (sTx HB.out hb)) | ((with_reducible refine gtC 22 ?_); refine xCl 18 Tryz.func22 (graftwoodlaw17_Few.calls k _ _ l2 ad _ (cW (Kd.C_below HR2.out HB.out)) HC2.out A6.out) ?_; rintro e w12 ⟨ca, rfl, ho0, hb⟩; refine ⟨_, rfl, ?_⟩; replace ai := am (rB ai.out hb); replace an := am (rB an.out hb); have ao := am (Kd.R_lower ho0 (below_size (eTx HB.out))); replace HB := am (sTx HB.out hb); obtain ⟨aq, ar, bt⟩ := Kd.R_slice ai.out; subst bt; obtain ⟨aC, aD, bu⟩ := Kd.R_slice an.out; subst bu) | ((with_reducible refine gtC 23 ?_); refine xCl 22 Tryz.func23 (list_Delta.calls k _ _ aa _ _ ab ag ah _ (cW (Kd.R_reads' ai.out).2.2) ((Kd.R_reads' ai.out).2.1) (cW (Kd.R_reads' an.out).2.2) ((Kd.R_reads' an.out).2.1) A7.out) ?_; rintro e w15 ⟨a4, rfl, ho0, hb⟩; refine ⟨_, rfl, ?_⟩; replace ai := am (rB ai.out hb); replace an := am (rB an.out hb); have ay := am (Kd.R_lower (Kd.R_new' ho0 (Kd.R_lt (rT ao.out))) (below_size (eTx HB.out))); replace ao := am (Kd.R_elder' (rT ao.out) (Kd.R_base ho0) hb); replace HB := am (sTx HB.out hb); obtain ⟨aI, aJ, bv⟩ := Kd.R_slice ao.out; subst bv) | ((with_reducible refine gtC 24 ?_); refine xCl 28 Tryz.func24 (list_Apply.calls k _ _ aa _ _ ad al aj _ (cW (Kd.R_reads' ai.out).2.2) ((Kd.R_reads' ai.out).2.1) (cW (Kd.R_reads' ao.out).2.2) ((Kd.R_reads' ao.out).2.1) A8.out) ?_; rintro e w17 ⟨a5, rfl, ho0, hb⟩; refine ⟨_, rfl, ?_⟩; replace ao := am (rB ao.out hb); replace ay := am (rB ay.out hb); have aA := am (Kd.R_lower (Kd.R_new' (Kd.R_new' ho0 (Kd.R_lt (rT ai.out))) (Kd.R_lt (rT an.out))) (below_size (eTx HB.out))); replace ai := am (Kd.R_elder' (rT ai.out) (Kd.R_base ho0) hb); replace an := am (Kd.R_elder' (rT an.out) (Kd.R_base ho0) hb); replace HB := am (sTx HB.out hb)))
 (try simp only [Act.put, List.setIfInBounds_toArray, List.set_cons_zero, List.set_cons_succ])
 go_cut [38] (fun v38 wc => ∃ (kq : Nat) (aM : Bool), v38 = .bool aM ∧ Aside0 (graftwoodlaw17_ListChanges.j0 kq aa ab ad ag ah al aj aM = some r) ∧ Aside0 (kq ≤ k) ∧ Aside0 (Kd.R k55 55 wc w.heap.size (fun k_ => some k_ ≠ ((.slice aC ab.length aD) : Value).ownBlock ∧ some k_ ≠ (a5 : Value).ownBlock) (.slice aq aa.length ar) aa) ∧ Aside0 (Kd.R k55 55 wc w.heap.size (fun k_ => some k_ ≠ ((.slice aq aa.length ar) : Value).ownBlock ∧ some k_ ≠ (a5 : Value).ownBlock) (.slice aC ab.length aD) ab) ∧ Aside0 (Kd.R k75 75 wc w.heap.size (fun k_ => some k_ ≠ (a4 : Value).ownBlock) (.slice aI ad.length aJ) ad) ∧ Aside0 (Kd.R k75 75 wc w.heap.size (fun k_ => some k_ ≠ ((.slice aI ad.length aJ) : Value).ownBlock) a4 ag) ∧ Aside0 (Kd.R k55 55 wc w.heap.size (fun k_ => some k_ ≠ ((.slice aq aa.length ar) : Value).ownBlock ∧ some k_ ≠ ((.slice aC ab.length aD) : Value).ownBlock) a5 al) ∧ Aside0 (Below w.heap.size w wc))
 case first =>
  have H := HC9.out
  clear HC9
  replace H := bnd H; obtain ⟨ax, A18, H⟩ := H
  replace H := ifB H; rcases H with ⟨rfl, H⟩ | ⟨rfl, H⟩
  ·replace H := bnd H; obtain ⟨av, A20, H⟩ := H
   have H' := Aside0.mk H
   clear H
   go_wp2_with (first | ((with_reducible refine gtC 13 ?_); refine xCb 32 Tryz.func13 (graftwoodref17_May.calls k _ _ aa true _ (cW (Kd.R_reads' ai.out).2.2) ((Kd.R_reads' ai.out).2.1) A18.out) fun w21 hb => ?_; replace ai := am (rB ai.out hb); replace an := am (rB an.out hb); replace ao := am (rB ao.out hb); replace ay := am (rB ay.out hb); replace aA := am (rB aA.out hb); replace HB := am (sTx HB.out hb)) | (go_at_call 25; (with_reducible refine (graftwoodref17_Changes.calls k _ _ ad av _ (cW (Kd.R_reads' ao.out).2.2) ((Kd.R_reads' ao.out).2.1) A20.out).mono ?_); rintro e w22 ⟨rfl, hb⟩; replace ai := am (rB ai.out hb); replace an := am (rB an.out hb); replace ao := am (rB ao.out hb); replace ay := am (rB ay.out hb); replace aA := am (rB aA.out hb); replace HB := am (sTx HB.out hb)))
   go_meet
   case rel => exact ⟨_, (!av), rfG, H', ⟨rfO⟩, ⟨by (with_reducible repeat (first | apply Kd.R_alloc | apply Kd.R_drewN | apply Kd.R_drew)); exact Kd.R_mono ai.out (fun _ hk => ⟨hk.1.2, hk.2⟩)⟩, ⟨by (with_reducible repeat (first | apply Kd.R_alloc | apply Kd.R_drewN | apply Kd.R_drew)); exact Kd.R_mono an.out (fun _ hk => ⟨hk.1.2, hk.2⟩)⟩, ⟨by (with_reducible repeat (first | apply Kd.R_alloc | apply Kd.R_drewN | apply Kd.R_drew)); exact Kd.R_mono ao.out (fun _ hk => hk.2)⟩, ⟨by (with_reducible repeat (first | apply Kd.R_alloc | apply Kd.R_drewN | apply Kd.R_drew)); exact Kd.R_mono ay.out (fun _ hk => hk.2)⟩, ⟨by (with_reducible repeat (first | apply Kd.R_alloc | apply Kd.R_drewN | apply Kd.R_drew)); exact Kd.R_mono aA.out (fun _ hk => ⟨hk.1.2, hk.2⟩)⟩, ⟨eTx HB.out⟩⟩
  ·have H' := Aside0.mk H
   clear H
   go_wp2_with (first | ((with_reducible refine gtC 13 ?_); refine xCb 32 Tryz.func13 (graftwoodref17_May.calls k _ _ aa false _ (cW (Kd.R_reads' ai.out).2.2) ((Kd.R_reads' ai.out).2.1) A18.out) fun w23 hb => ?_; replace ai := am (rB ai.out hb); replace an := am (rB an.out hb); replace ao := am (rB ao.out hb); replace ay := am (rB ay.out hb); replace aA := am (rB aA.out hb); replace HB := am (sTx HB.out hb)))
   go_meet
   case rel => exact ⟨_, (true), rfG, H', ⟨rfO⟩, ⟨by (with_reducible repeat (first | apply Kd.R_alloc | apply Kd.R_drewN | apply Kd.R_drew)); exact Kd.R_mono ai.out (fun _ hk => ⟨hk.1.2, hk.2⟩)⟩, ⟨by (with_reducible repeat (first | apply Kd.R_alloc | apply Kd.R_drewN | apply Kd.R_drew)); exact Kd.R_mono an.out (fun _ hk => ⟨hk.1.2, hk.2⟩)⟩, ⟨by (with_reducible repeat (first | apply Kd.R_alloc | apply Kd.R_drewN | apply Kd.R_drew)); exact Kd.R_mono ao.out (fun _ hk => hk.2)⟩, ⟨by (with_reducible repeat (first | apply Kd.R_alloc | apply Kd.R_drewN | apply Kd.R_drew)); exact Kd.R_mono ay.out (fun _ hk => hk.2)⟩, ⟨by (with_reducible repeat (first | apply Kd.R_alloc | apply Kd.R_drewN | apply Kd.R_drew)); exact Kd.R_mono aA.out (fun _ hk => ⟨hk.1.2, hk.2⟩)⟩, ⟨eTx HB.out⟩⟩
 case rest =>
  clear HC9
  obtain ⟨kq, aM, rfl, HA, HJ8, ac, af, ap, ae, ak, HB⟩ := hcut
  cases kq with
  | zero => exact absurd HA.out (by simp [graftwoodlaw17_ListChanges.j0])
  | succ kj8 =>
   have H := HA.out
   clear HA
   simp only [graftwoodlaw17_ListChanges.j0] at H
   have a6 := Aside0.mk H
   clear H
   go_upto_if 38 with (fail)
   go_cut [] (fun wc => ∃ (kq : Nat), Aside0 (graftwoodlaw17_ListChanges.j1 kq aa ab ag ah = some r) ∧ Aside0 (kq ≤ kj8) ∧ Aside0 (Kd.R k55 55 wc w.heap.size (fun k_ => some k_ ≠ ((.slice aC ab.length aD) : Value).ownBlock) (.slice aq aa.length ar) aa) ∧ Aside0 (Kd.R k55 55 wc w.heap.size (fun k_ => some k_ ≠ ((.slice aq aa.length ar) : Value).ownBlock) (.slice aC ab.length aD) ab) ∧ Aside0 (Kd.R k75 75 wc w.heap.size (fun _ => True) a4 ag) ∧ Aside0 (Below w.heap.size w wc))
   case first =>
    have H := a6.out
    clear a6
    replace H := ifB H; rcases H with ⟨rfl, H⟩ | ⟨rfl, H⟩
    ·replace H := ifP H; rcases H with ⟨c26, H⟩ | ⟨c26, H⟩
     ·have aE : decide (0 < (al.length : Int)) = true := decide_eq_true c26
      have aO : decide (0 < al.length) = true := decide_eq_true (by omega)
      clear c26
      (first | rw [aE] | (simp only [i64_w, i32_w]; rw [aE]) | skip)
      obtain rfl := smI H
      obtain ⟨cb, cc, bw⟩ := Kd.R_slice ak.out
      subst bw
      go_wp2
      go_ret
      exact ⟨rfF, eTx HB.out⟩
     ·have aE : decide (0 < (al.length : Int)) = false := decide_eq_false c26
      have aO : decide (0 < al.length) = false := decide_eq_false (by omega)
      clear c26
      (first | rw [aE] | (simp only [i64_w, i32_w]; rw [aE]) | skip)
      replace H := ifP H; rcases H with ⟨c28, H⟩ | ⟨c28, H⟩
      ·have aP := beq_iff_eq.mpr c28
       have aQ := bne_eq_false_iff_eq.mpr c28
       clear c28
       have H' := Aside0.mk H
       clear H
       obtain ⟨cd, ce, bx⟩ := Kd.R_slice ak.out
       subst bx
       go_wp2
       go_meet
       case rel => exact ⟨_, H', ⟨by have := HJ8.out; first | omega | exact Nat.le_refl _⟩, ⟨by (with_reducible repeat (first | apply Kd.R_alloc | apply Kd.R_drewN | apply Kd.R_drew)); exact Kd.R_mono ac.out (fun _ hk => hk.1)⟩, ⟨by (with_reducible repeat (first | apply Kd.R_alloc | apply Kd.R_drewN | apply Kd.R_drew)); exact Kd.R_mono af.out (fun _ hk => hk.1)⟩, ⟨by (with_reducible repeat (first | apply Kd.R_alloc | apply Kd.R_drewN | apply Kd.R_drew)); exact Kd.R_mono ae.out (fun _ hk => trivial)⟩, ⟨eTx HB.out⟩⟩
      ·have aP := beq_eq_false_iff_ne.mpr c28
       have aQ := bne_iff_ne.mpr c28
       obtain rfl := smI H
       obtain ⟨cf, cg, bz⟩ := Kd.R_slice ak.out
       subst bz
       go_wp2
       go_ret
       exact ⟨rfF, eTx HB.out⟩
    ·replace H := bnd H; obtain ⟨⟨aF, a_⟩, A31, H⟩ := H
     (try dsimp only at H)
     replace H := ifB H; rcases H with ⟨rfl, H⟩ | ⟨rfl, H⟩
     ·replace H := bnd H; obtain ⟨aG, A33, H⟩ := H
      replace H := ifB H; rcases H with ⟨rfl, H⟩ | ⟨rfl, H⟩
      ·replace H := ifP H; rcases H with ⟨c35, H⟩ | ⟨c35, H⟩
       ·have aR := beq_iff_eq.mpr c35
        have aU := bne_eq_false_iff_eq.mpr c35
        clear c35
        have H' := Aside0.mk H
        clear H
        go_wp2_with (first | ((with_reducible refine gtC 26 ?_); refine xCl 49 Tryz.func26 (graftwoodref17_Apply.calls kj8 _ _ aa _ _ ad aF true _ (cW (Kd.R_reads' ac.out).2.2) ((Kd.R_reads' ac.out).2.1) (cW (Kd.R_reads' ap.out).2.2) ((Kd.R_reads' ap.out).2.1) A31.out) ?_; rintro e w36 ⟨aV, rfl, ho0, hb⟩; refine ⟨_, rfl, ?_⟩; replace ap := am (rB ap.out hb); replace ae := am (rB ae.out hb); have au := am (Kd.R_lower (Kd.R_new' (Kd.R_new' (Kd.R_new' ho0 (Kd.R_lt (rT ac.out))) (Kd.R_lt (rT af.out))) (Kd.R_lt (rT ak.out))) (below_size (eTx HB.out))); replace ac := am (Kd.R_elder' (rT ac.out) (Kd.R_base ho0) hb); replace af := am (Kd.R_elder' (rT af.out) (Kd.R_base ho0) hb); replace ak := am (Kd.R_elder' (rT ak.out) (Kd.R_base ho0) hb); replace HB := am (sTx HB.out hb); obtain ⟨ch, ci, bC⟩ := Kd.R_slice ak.out; subst bC; obtain ⟨cj, ck, bD⟩ := Kd.R_slice au.out; subst bD) | (go_at_call 15; (with_reducible refine (graftwoodref05_Same.calls kj8 _ _ al _ _ aF true _ (cW (Kd.R_reads' ak.out).2.2) ((Kd.R_reads' ak.out).2.1) (cW (Kd.R_reads' au.out).2.2) ((Kd.R_reads' au.out).2.1) A33.out).mono ?_); rintro e w' ⟨rfl, ⟨nd, rfl⟩⟩))
        go_meet
        case rel => exact ⟨_, H', ⟨by have := HJ8.out; first | omega | exact Nat.le_refl _⟩, ⟨by (with_reducible repeat (first | apply Kd.R_alloc | apply Kd.R_drewN | apply Kd.R_drew)); exact Kd.R_mono ac.out (fun _ hk => hk.1.1)⟩, ⟨by (with_reducible repeat (first | apply Kd.R_alloc | apply Kd.R_drewN | apply Kd.R_drew)); exact Kd.R_mono af.out (fun _ hk => hk.1.1)⟩, ⟨by (with_reducible repeat (first | apply Kd.R_alloc | apply Kd.R_drewN | apply Kd.R_drew)); exact Kd.R_mono ae.out (fun _ hk => trivial)⟩, ⟨eTx HB.out⟩⟩
       ·have aR := beq_eq_false_iff_ne.mpr c35
        have aU := bne_iff_ne.mpr c35
        obtain rfl := smI H
        go_wp2_with (first | ((with_reducible refine gtC 26 ?_); refine xCl 49 Tryz.func26 (graftwoodref17_Apply.calls kj8 _ _ aa _ _ ad aF true _ (cW (Kd.R_reads' ac.out).2.2) ((Kd.R_reads' ac.out).2.1) (cW (Kd.R_reads' ap.out).2.2) ((Kd.R_reads' ap.out).2.1) A31.out) ?_; rintro e w39 ⟨aV, rfl, ho0, hb⟩; refine ⟨_, rfl, ?_⟩; replace ap := am (rB ap.out hb); replace ae := am (rB ae.out hb); have au := am (Kd.R_lower (Kd.R_new' (Kd.R_new' (Kd.R_new' ho0 (Kd.R_lt (rT ac.out))) (Kd.R_lt (rT af.out))) (Kd.R_lt (rT ak.out))) (below_size (eTx HB.out))); replace ac := am (Kd.R_elder' (rT ac.out) (Kd.R_base ho0) hb); replace af := am (Kd.R_elder' (rT af.out) (Kd.R_base ho0) hb); replace ak := am (Kd.R_elder' (rT ak.out) (Kd.R_base ho0) hb); replace HB := am (sTx HB.out hb); obtain ⟨cl, cm, bE⟩ := Kd.R_slice ak.out; subst bE; obtain ⟨cn, co, bF⟩ := Kd.R_slice au.out; subst bF) | (go_at_call 15; (with_reducible refine (graftwoodref05_Same.calls kj8 _ _ al _ _ aF true _ (cW (Kd.R_reads' ak.out).2.2) ((Kd.R_reads' ak.out).2.1) (cW (Kd.R_reads' au.out).2.2) ((Kd.R_reads' au.out).2.1) A33.out).mono ?_); rintro e w' ⟨rfl, ⟨nd, rfl⟩⟩))
        go_ret
        exact ⟨rfF, eTx HB.out⟩
      ·obtain rfl := smI H
       go_wp2_with (first | ((with_reducible refine gtC 26 ?_); refine xCl 49 Tryz.func26 (graftwoodref17_Apply.calls kj8 _ _ aa _ _ ad aF true _ (cW (Kd.R_reads' ac.out).2.2) ((Kd.R_reads' ac.out).2.1) (cW (Kd.R_reads' ap.out).2.2) ((Kd.R_reads' ap.out).2.1) A31.out) ?_; rintro e w42 ⟨aV, rfl, ho0, hb⟩; refine ⟨_, rfl, ?_⟩; replace ap := am (rB ap.out hb); replace ae := am (rB ae.out hb); have au := am (Kd.R_lower (Kd.R_new' (Kd.R_new' (Kd.R_new' ho0 (Kd.R_lt (rT ac.out))) (Kd.R_lt (rT af.out))) (Kd.R_lt (rT ak.out))) (below_size (eTx HB.out))); replace ac := am (Kd.R_elder' (rT ac.out) (Kd.R_base ho0) hb); replace af := am (Kd.R_elder' (rT af.out) (Kd.R_base ho0) hb); replace ak := am (Kd.R_elder' (rT ak.out) (Kd.R_base ho0) hb); replace HB := am (sTx HB.out hb); obtain ⟨cp, cq, bG⟩ := Kd.R_slice ak.out; subst bG; obtain ⟨cr, cs, bH⟩ := Kd.R_slice au.out; subst bH) | (go_at_call 15; (with_reducible refine (graftwoodref05_Same.calls kj8 _ _ al _ _ aF false _ (cW (Kd.R_reads' ak.out).2.2) ((Kd.R_reads' ak.out).2.1) (cW (Kd.R_reads' au.out).2.2) ((Kd.R_reads' au.out).2.1) A33.out).mono ?_); rintro e w' ⟨rfl, ⟨nd, rfl⟩⟩))
       go_ret
       exact ⟨rfF, eTx HB.out⟩
     ·replace H := ifP H; rcases H with ⟨c45, H⟩ | ⟨c45, H⟩
      ·have aW : decide (0 < (al.length : Int)) = true := decide_eq_true c45
       have aX : decide (0 < al.length) = true := decide_eq_true (by omega)
       clear c45
       obtain rfl := smI H
       go_wp2_with (first | ((with_reducible refine gtC 26 ?_); refine xCl 49 Tryz.func26 (graftwoodref17_Apply.calls kj8 _ _ aa _ _ ad aF false _ (cW (Kd.R_reads' ac.out).2.2) ((Kd.R_reads' ac.out).2.1) (cW (Kd.R_reads' ap.out).2.2) ((Kd.R_reads' ap.out).2.1) A31.out) ?_; rintro e w46 ⟨aV, rfl, ho0, hb⟩; refine ⟨_, rfl, ?_⟩; replace ap := am (rB ap.out hb); replace ae := am (rB ae.out hb); have au := am (Kd.R_lower (Kd.R_new' (Kd.R_new' (Kd.R_new' ho0 (Kd.R_lt (rT ac.out))) (Kd.R_lt (rT af.out))) (Kd.R_lt (rT ak.out))) (below_size (eTx HB.out))); replace ac := am (Kd.R_elder' (rT ac.out) (Kd.R_base ho0) hb); replace af := am (Kd.R_elder' (rT af.out) (Kd.R_base ho0) hb); replace ak := am (Kd.R_elder' (rT ak.out) (Kd.R_base ho0) hb); replace HB := am (sTx HB.out hb); obtain ⟨ct, cu, bI⟩ := Kd.R_slice ak.out; subst bI))
       go_ret
       exact ⟨rfF, eTx HB.out⟩
      ·have aW : decide (0 < (al.length : Int)) = false := decide_eq_false c45
       have aX : decide (0 < al.length) = false := decide_eq_false (by omega)
       clear c45
       replace H := ifP H; rcases H with ⟨c48, H⟩ | ⟨c48, H⟩
       ·have aY := beq_iff_eq.mpr c48
        have aZ := bne_eq_false_iff_eq.mpr c48
        clear c48
        have H' := Aside0.mk H
        clear H
        go_wp2_with (first | ((with_reducible refine gtC 26 ?_); refine xCl 49 Tryz.func26 (graftwoodref17_Apply.calls kj8 _ _ aa _ _ ad aF false _ (cW (Kd.R_reads' ac.out).2.2) ((Kd.R_reads' ac.out).2.1) (cW (Kd.R_reads' ap.out).2.2) ((Kd.R_reads' ap.out).2.1) A31.out) ?_; rintro e w49 ⟨aV, rfl, ho0, hb⟩; refine ⟨_, rfl, ?_⟩; replace ap := am (rB ap.out hb); replace ae := am (rB ae.out hb); have au := am (Kd.R_lower (Kd.R_new' (Kd.R_new' (Kd.R_new' ho0 (Kd.R_lt (rT ac.out))) (Kd.R_lt (rT af.out))) (Kd.R_lt (rT ak.out))) (below_size (eTx HB.out))); replace ac := am (Kd.R_elder' (rT ac.out) (Kd.R_base ho0) hb); replace af := am (Kd.R_elder' (rT af.out) (Kd.R_base ho0) hb); replace ak := am (Kd.R_elder' (rT ak.out) (Kd.R_base ho0) hb); replace HB := am (sTx HB.out hb); obtain ⟨cv, cw, bJ⟩ := Kd.R_slice ak.out; subst bJ))
        go_meet
        case rel => exact ⟨_, H', ⟨by have := HJ8.out; first | omega | exact Nat.le_refl _⟩, ⟨by (with_reducible repeat (first | apply Kd.R_alloc | apply Kd.R_drewN | apply Kd.R_drew)); exact Kd.R_mono ac.out (fun _ hk => hk.1.1)⟩, ⟨by (with_reducible repeat (first | apply Kd.R_alloc | apply Kd.R_drewN | apply Kd.R_drew)); exact Kd.R_mono af.out (fun _ hk => hk.1.1)⟩, ⟨by (with_reducible repeat (first | apply Kd.R_alloc | apply Kd.R_drewN | apply Kd.R_drew)); exact Kd.R_mono ae.out (fun _ hk => trivial)⟩, ⟨eTx HB.out⟩⟩
       ·have aY := beq_eq_false_iff_ne.mpr c48
        have aZ := bne_iff_ne.mpr c48
        obtain rfl := smI H
        go_wp2_with (first | ((with_reducible refine gtC 26 ?_); refine xCl 49 Tryz.func26 (graftwoodref17_Apply.calls kj8 _ _ aa _ _ ad aF false _ (cW (Kd.R_reads' ac.out).2.2) ((Kd.R_reads' ac.out).2.1) (cW (Kd.R_reads' ap.out).2.2) ((Kd.R_reads' ap.out).2.1) A31.out) ?_; rintro e w51 ⟨aV, rfl, ho0, hb⟩; refine ⟨_, rfl, ?_⟩; replace ap := am (rB ap.out hb); replace ae := am (rB ae.out hb); have au := am (Kd.R_lower (Kd.R_new' (Kd.R_new' (Kd.R_new' ho0 (Kd.R_lt (rT ac.out))) (Kd.R_lt (rT af.out))) (Kd.R_lt (rT ak.out))) (below_size (eTx HB.out))); replace ac := am (Kd.R_elder' (rT ac.out) (Kd.R_base ho0) hb); replace af := am (Kd.R_elder' (rT af.out) (Kd.R_base ho0) hb); replace ak := am (Kd.R_elder' (rT ak.out) (Kd.R_base ho0) hb); replace HB := am (sTx HB.out hb); obtain ⟨cx, cy, bK⟩ := Kd.R_slice ak.out; subst bK))
        go_ret
        exact ⟨rfF, eTx HB.out⟩
   case rest =>
    clear a6
    obtain ⟨kq, HA, be, ac, af, ae, HB⟩ := hcut
    cases kq with
    | zero => exact absurd HA.out (by simp [graftwoodlaw17_ListChanges.j1])
    | succ kj23 =>
     have H := HA.out
     clear HA
     simp only [graftwoodlaw17_ListChanges.j1] at H
     have a7 := Aside0.mk H
     clear H
     go_upto_region 10 with (fail)
     go_cut [83] (fun v83 wc => ∃ (kq : Nat) (aK : Bool), v83 = .bool aK ∧ Aside0 (graftwoodlaw17_ListChanges.j2 kq aa ab ag ah aK = some r) ∧ Aside0 (kq ≤ kj23) ∧ Aside0 (Kd.R k55 55 wc w.heap.size (fun k_ => some k_ ≠ ((.slice aC ab.length aD) : Value).ownBlock) (.slice aq aa.length ar) aa) ∧ Aside0 (Kd.R k55 55 wc w.heap.size (fun k_ => some k_ ≠ ((.slice aq aa.length ar) : Value).ownBlock) (.slice aC ab.length aD) ab) ∧ Aside0 (Kd.R k75 75 wc w.heap.size (fun _ => True) a4 ag) ∧ Aside0 (Below w.heap.size w wc))
     case first =>
      have H := a7.out
      clear a7
      replace H := bnd H; obtain ⟨a3, A54, H⟩ := H
      replace H := ifB H; rcases H with ⟨rfl, H⟩ | ⟨rfl, H⟩
      ·replace H := bnd H; obtain ⟨aH, A56, H⟩ := H
       have H' := Aside0.mk H
       clear H
       go_wp2_with (first | ((with_reducible refine gtC 13 ?_); refine xCb 77 Tryz.func13 (graftwoodref17_May.calls kj23 _ _ aa true _ (cW (Kd.R_reads' ac.out).2.2) ((Kd.R_reads' ac.out).2.1) A54.out) fun w57 hb => ?_; replace ac := am (rB ac.out hb); replace af := am (rB af.out hb); replace ae := am (rB ae.out hb); replace HB := am (sTx HB.out hb)) | (go_at_call 13; (with_reducible refine (graftwoodref17_May.calls kj23 _ _ ab aH _ (cW (Kd.R_reads' af.out).2.2) ((Kd.R_reads' af.out).2.1) A56.out).mono ?_); rintro e w58 ⟨rfl, hb⟩; replace ac := am (rB ac.out hb); replace af := am (rB af.out hb); replace ae := am (rB ae.out hb); replace HB := am (sTx HB.out hb)))
       go_meet
       case rel => exact ⟨_, (!aH), rfG, H', ⟨by have := HJ8.out; have := be.out; first | omega | exact Nat.le_refl _⟩, ⟨rT ac.out⟩, ⟨rT af.out⟩, ⟨rT ae.out⟩, ⟨eTx HB.out⟩⟩
      ·have H' := Aside0.mk H
       clear H
       go_wp2_with (first | ((with_reducible refine gtC 13 ?_); refine xCb 77 Tryz.func13 (graftwoodref17_May.calls kj23 _ _ aa false _ (cW (Kd.R_reads' ac.out).2.2) ((Kd.R_reads' ac.out).2.1) A54.out) fun w59 hb => ?_; replace ac := am (rB ac.out hb); replace af := am (rB af.out hb); replace ae := am (rB ae.out hb); replace HB := am (sTx HB.out hb)))
       go_meet
       case rel => exact ⟨_, (true), rfG, H', ⟨by have := HJ8.out; have := be.out; first | omega | exact Nat.le_refl _⟩, ⟨rT ac.out⟩, ⟨rT af.out⟩, ⟨rT ae.out⟩, ⟨eTx HB.out⟩⟩
     case rest =>
      clear a7
      obtain ⟨kq, aK, rfl, HA, cz, ac, af, ae, HB⟩ := hcut
      cases kq with
      | zero => exact absurd HA.out (by simp [graftwoodlaw17_ListChanges.j2])
      | succ kj52 =>
       have H := HA.out
       clear HA
       simp only [graftwoodlaw17_ListChanges.j2] at H
       replace H := ifB H; rcases H with ⟨rfl, H⟩ | ⟨rfl, H⟩
       ·replace H := ifP H; rcases H with ⟨c61, H⟩ | ⟨c61, H⟩
        ·have bh := beq_iff_eq.mpr c61
         have bi := bne_eq_false_iff_eq.mpr c61
         clear c61
         replace H := ifP H; rcases H with ⟨c62, H⟩ | ⟨c62, H⟩
         ·have bj := beq_iff_eq.mpr c62
          have bk := bne_eq_false_iff_eq.mpr c62
          clear c62
          replace H := bnd H; obtain ⟨aN, A63, H⟩ := H
          obtain rfl := smI H
          obtain ⟨cA, cB, bL⟩ := Kd.R_slice ae.out
          subst bL
          go_wp2_with (first | (go_at_call 18; (with_reducible refine (graftwoodlaw17_awake.calls kj52  aN _ A63.out).mono ?_); rintro e w65 ⟨rfl, hb⟩; replace ac := am (rB ac.out hb); replace af := am (rB af.out hb); replace ae := am (rB ae.out hb); replace HB := am (sTx HB.out hb)))
          go_ret
          exact ⟨rfF, eTx HB.out⟩
         ·have bj := beq_eq_false_iff_ne.mpr c62
          have bk := bne_iff_ne.mpr c62
          obtain rfl := smI H
          obtain ⟨cC, cD, bM⟩ := Kd.R_slice ae.out
          subst bM
          go_wp2
          go_ret
          exact ⟨rfF, eTx HB.out⟩
        ·have bh := beq_eq_false_iff_ne.mpr c61
         have bi := bne_iff_ne.mpr c61
         have b8 : ¬ (ag = []) := fun h_ => c61 (by rw [h_]; rfl)
         obtain rfl := smI H
         obtain ⟨cE, cF, bN⟩ := Kd.R_slice ae.out
         subst bN
         go_wp2
         go_ret
         exact ⟨rfF, eTx HB.out⟩
       ·replace H := bnd H; obtain ⟨az, A68, H⟩ := H
        replace H := bnd H; obtain ⟨aL, A69, H⟩ := H
        replace H := ifB H; rcases H with ⟨rfl, H⟩ | ⟨rfl, H⟩
        ·replace H := ifP H; rcases H with ⟨c71, H⟩ | ⟨c71, H⟩
         ·have bp := beq_iff_eq.mpr c71
          have bq := bne_eq_false_iff_eq.mpr c71
          clear c71
          replace H := bnd H; obtain ⟨aB, A72, H⟩ := H
          obtain rfl := smI H
          go_wp2_with (first | ((with_reducible refine gtC 28 ?_); refine xCl 97 Tryz.func28 (graftwoodref17_Delta.calls kj52 _ _ aa _ _ ab az _ (cW (Kd.R_reads' ac.out).2.2) ((Kd.R_reads' ac.out).2.1) (cW (Kd.R_reads' af.out).2.2) ((Kd.R_reads' af.out).2.1) A68.out) ?_; rintro e w73 ⟨bs, rfl, ho0, hb⟩; refine ⟨_, rfl, ?_⟩; replace ac := am (rB ac.out hb); replace af := am (rB af.out hb); have aw := am (Kd.R_lower (Kd.R_new' ho0 (Kd.R_lt (rT ae.out))) (below_size (eTx HB.out))); replace ae := am (Kd.R_elder' (rT ae.out) (Kd.R_base ho0) hb); replace HB := am (sTx HB.out hb); obtain ⟨bO, bP, bQ⟩ := Kd.R_slice ae.out; subst bQ; obtain ⟨bR, bS, bU⟩ := Kd.R_slice aw.out; subst bU) | ((with_reducible refine gtC 27 ?_); refine xCz 98 Tryz.func27 (graftwoodref17_SameChanges.calls kj52 _ _ ag _ _ az true _ (cW (Kd.R_reads' ae.out).2.2) ((Kd.R_reads' ae.out).2.1) (cW (Kd.R_reads' aw.out).2.2) ((Kd.R_reads' aw.out).2.1) A69.out) fun nd => ?_) | (go_at_call 18; (with_reducible refine (graftwoodlaw17_awake.calls kj52  aB _ A72.out).mono ?_); rintro e w76 ⟨rfl, hb⟩; replace ac := am (rB ac.out hb); replace af := am (rB af.out hb); replace ae := am (rB ae.out hb); replace aw := am (rB aw.out hb); replace HB := am (sTx HB.out hb)))
          go_ret
          exact ⟨rfF, eTx HB.out⟩
         ·have bp := beq_eq_false_iff_ne.mpr c71
          have bq := bne_iff_ne.mpr c71
          obtain rfl := smI H
          go_wp2_with (first | ((with_reducible refine gtC 28 ?_); refine xCl 97 Tryz.func28 (graftwoodref17_Delta.calls kj52 _ _ aa _ _ ab az _ (cW (Kd.R_reads' ac.out).2.2) ((Kd.R_reads' ac.out).2.1) (cW (Kd.R_reads' af.out).2.2) ((Kd.R_reads' af.out).2.1) A68.out) ?_; rintro e w77 ⟨bs, rfl, ho0, hb⟩; refine ⟨_, rfl, ?_⟩; replace ac := am (rB ac.out hb); replace af := am (rB af.out hb); have aw := am (Kd.R_lower (Kd.R_new' ho0 (Kd.R_lt (rT ae.out))) (below_size (eTx HB.out))); replace ae := am (Kd.R_elder' (rT ae.out) (Kd.R_base ho0) hb); replace HB := am (sTx HB.out hb); obtain ⟨bV, bW, bX⟩ := Kd.R_slice ae.out; subst bX; obtain ⟨bZ, b0, b1⟩ := Kd.R_slice aw.out; subst b1) | ((with_reducible refine gtC 27 ?_); refine xCz 98 Tryz.func27 (graftwoodref17_SameChanges.calls kj52 _ _ ag _ _ az true _ (cW (Kd.R_reads' ae.out).2.2) ((Kd.R_reads' ae.out).2.1) (cW (Kd.R_reads' aw.out).2.2) ((Kd.R_reads' aw.out).2.1) A69.out) fun nd => ?_))
          go_ret
          exact ⟨rfF, eTx HB.out⟩
        ·obtain rfl := smI H
         go_wp2_with (first | ((with_reducible refine gtC 28 ?_); refine xCl 97 Tryz.func28 (graftwoodref17_Delta.calls kj52 _ _ aa _ _ ab az _ (cW (Kd.R_reads' ac.out).2.2) ((Kd.R_reads' ac.out).2.1) (cW (Kd.R_reads' af.out).2.2) ((Kd.R_reads' af.out).2.1) A68.out) ?_; rintro e w80 ⟨bs, rfl, ho0, hb⟩; refine ⟨_, rfl, ?_⟩; replace ac := am (rB ac.out hb); replace af := am (rB af.out hb); have aw := am (Kd.R_lower (Kd.R_new' ho0 (Kd.R_lt (rT ae.out))) (below_size (eTx HB.out))); replace ae := am (Kd.R_elder' (rT ae.out) (Kd.R_base ho0) hb); replace HB := am (sTx HB.out hb); obtain ⟨b2, b3, b4⟩ := Kd.R_slice ae.out; subst b4; obtain ⟨b5, b6, b7⟩ := Kd.R_slice aw.out; subst b7) | ((with_reducible refine gtC 27 ?_); refine xCz 98 Tryz.func27 (graftwoodref17_SameChanges.calls kj52 _ _ ag _ _ az false _ (cW (Kd.R_reads' ae.out).2.2) ((Kd.R_reads' ae.out).2.1) (cW (Kd.R_reads' aw.out).2.2) ((Kd.R_reads' aw.out).2.1) A69.out) fun nd => ?_))
         go_ret
         exact ⟨rfF, eTx HB.out⟩

end Go.Proofs.YtknmfmedklfepaaGreatDoor.P
