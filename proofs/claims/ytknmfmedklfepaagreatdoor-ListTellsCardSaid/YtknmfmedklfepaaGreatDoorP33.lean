-- half the indentation
import Derived.Test.YtknmfmedklfepaaGreatDoorSqz
import Derived.Test.YtknmfmedklfepaaGreatDoorP0
import Derived.Test.YtknmfmedklfepaaGreatDoorP32
namespace Go.Proofs.YtknmfmedklfepaaGreatDoor.P
open Go.RowKit Go.Proofs.YtknmfmedklfepaaGreatDoorW.PrintWords Go.Proofs.YtknmfmedklfepaaGreatDoorW.PrintLast Go.Proofs.YtknmfmedklfepaaGreatDoorW.PrintMore
attribute [local go_sem] max2_int min2_int max_two min_two max_three min_three max_four min_four
set_option linter.unusedVariables false
set_option linter.unusedSimpArgs false
set_option maxHeartbeats 8000000
set_option maxRecDepth 100000

/-! ### graftwoodref16_Same: function 36 -/
def graftwoodref16_Same.l0 : Nat → List (S63) → List (S63) → Int → Option (Bool)
 | 0, _, _, _ => none
 | k + 1, x0, x1, x5 => if x5 < (x0.length : Int) then (if 0 ≤ x5 then (if x5 < (x1.length : Int) then (if ((rd_T63 x0 x5).f0).toList = ((rd_T63 x1 x5).f0).toList then ((graftwoodref01_Same.f k ((rd_T63 x0 x5).f1) ((rd_T63 x1 x5).f1)).bind fun aw => (if aw = true then (graftwoodref16_Same.l0 k x0 x1 (wrap64 (x5 + 1))) else (some false))) else (some false)) else (none)) else (none)) else (some true)
def graftwoodref16_Same.f (k : Nat) (l0 : List (S63)) (l1 : List (S63)) : Option (Bool) := if (l0.length : Int) = (l1.length : Int) then (graftwoodref16_Same.l0 k l0 l1 0) else (some false)
theorem graftwoodref16_Same.mono_l : ∀ k, (∀ y0 y1 y2, LeO (graftwoodref16_Same.l0 k y0 y1 y2) (graftwoodref16_Same.l0 (k + 1) y0 y1 y2))
 | 0 => fun _ _ _ r h => by simp [graftwoodref16_Same.l0] at h
 | k + 1 => by
  have ih0 := graftwoodref16_Same.mono_l k
  ·intro y0 y1 y2
   unfold graftwoodref16_Same.l0
   repeat' first | (with_reducible first | apply ih0 | apply graftwoodref01_Same.mono | apply LeO.refl | apply LeO.none | apply LeO.ite | refine LeO.bind ?_ (fun _ => ?_)) | apply ih0 | apply graftwoodref01_Same.mono | exact LeO.none _ | refine LeO.ite ?_ ?_ | refine LeO.bind ?_ (fun _ => ?_)
theorem graftwoodref16_Same.mono : ∀ a0 a1 k, LeO (graftwoodref16_Same.f k a0 a1) (graftwoodref16_Same.f (k + 1) a0 a1) := by
 intro a0 a1 k
 have ih0 := graftwoodref16_Same.mono_l k
 unfold graftwoodref16_Same.f
 repeat' first | (with_reducible first | apply ih0 | apply graftwoodref01_Same.mono | apply LeO.refl | apply LeO.none | apply LeO.ite | refine LeO.bind ?_ (fun _ => ?_)) | apply ih0 | apply graftwoodref01_Same.mono | exact LeO.none _ | refine LeO.ite ?_ ?_ | refine LeO.bind ?_ (fun _ => ?_)
theorem graftwoodref16_Same.calls (k : Nat) (A0 : Option Addr) (c0 : Nat) (l0 : List (S63)) (A1 : Option Addr) (c1 : Nat) (l1 : List (S63)) (r : Bool) (w : World) (hr0 : Kd.C k63 w A0 l0.length l0) (hc0 : l0.length ≤ c0) (hr1 : Kd.C k63 w A1 l1.length l1) (hc1 : l1.length ≤ c1) (h : graftwoodref16_Same.f k l0 l1 = some r) :
  Calls Tryz.prog 36 #[.slice A0 l0.length c0, .slice A1 l1.length c1] w fun e w' => e = .returned (.bool r) ∧ Drawn0 w w' := by
 have HR0 := Aside0.mk hr0
 have HC0 := Aside0.mk hc0
 clear hr0 hc0
 have HR1 := Aside0.mk hr1
 have HC1 := Aside0.mk hc1
 clear hr1 hc1
 unfold graftwoodref16_Same.f at h; have H := h; clear h
 replace H := ifP H; rcases H with ⟨c3, H⟩ | ⟨c3, H⟩
 ·have aD := beq_iff_eq.mpr c3
  have aE := bne_eq_false_iff_eq.mpr c3
  have aF : (l0.length == l1.length) = true := by first | simpa using c3 | (simp at c3 ⊢; omega)
  clear c3
  have H' := Aside0.mk H
  clear H
  go_enter Tryz.func36, Tryz.ntmps36
  go_wp2
  repeat (go_quiet (fail); try go_wp2)
  go_loopg [5] k (fun kq v5 w' => ∃ (aa : Int), v5 = .int .i64 aa ∧ Aside0 (graftwoodref16_Same.l0 kq l0 l1 aa = some r) ∧ Aside0 (kq ≤ k) ∧ Drawn0 w w')
  case atStart => exact ⟨(0), rfG, H', ⟨Nat.le_refl _⟩, rfD⟩
  case round =>
   clear H'
   obtain ⟨aa, rfl, HA, HK1, ⟨m1, rfl⟩⟩ := hrel
   cases gk with
   | zero => exact absurd HA.out (by simp [graftwoodref16_Same.l0])
   | succ k1 =>
    have H := HA.out
    clear HA
    simp only [graftwoodref16_Same.l0] at H
    replace H := ifP H; rcases H with ⟨c4, H⟩ | ⟨c4, H⟩
    ·have aG := decide_eq_true c4
     clear c4
     replace H := ifN H; obtain ⟨c5, H⟩ := H
     have aJ := decide_eq_true c5
     clear c5
     replace H := ifN H; obtain ⟨c6, H⟩ := H
     have aK := decide_eq_true c6
     clear c6
     replace H := ifP H; rcases H with ⟨c7, H⟩ | ⟨c7, H⟩
     ·have aH := beq_iff_eq.mpr c7
      have aI := bne_eq_false_iff_eq.mpr c7
      clear c7
      replace H := bnd H; obtain ⟨aw, A8, H⟩ := H
      replace H := ifB H; rcases H with ⟨rfl, H⟩ | ⟨rfl, H⟩
      ·have H' := Aside0.mk H
       clear H
       have p385 : 0 ≤ (aa : Int) := of_decide_eq_true rfA
       have q385 : aa < (l0.length : Int) := of_decide_eq_true rfA
       obtain ⟨ad385, aq, ar, e385, aj, af, hl385_1, hi385_1⟩ := at_T63 HR0.out aa p385 q385
       cases e385
       have ak := Aside0.mk hi385_1
       have al := Aside0.mk hl385_1
       clear hi385_1 hl385_1
       replace p385 := eq_true p385
       replace q385 := eq_true q385
       have p386 : 0 ≤ (aa : Int) := of_decide_eq_true rfA
       have q386 : aa < (l1.length : Int) := of_decide_eq_true rfA
       obtain ⟨ad386, au, av, e386, an, ag, hl386_1, hi386_1⟩ := at_T63 HR1.out aa p386 q386
       cases e386
       have ao := Aside0.mk hi386_1
       have ap := Aside0.mk hl386_1
       clear hi386_1 hl386_1
       replace p386 := eq_true p386
       replace q386 := eq_true q386
       have p387 : 0 ≤ (aa : Int) := of_decide_eq_true rfA
       have q387 : aa < (l0.length : Int) := of_decide_eq_true rfA
       obtain ⟨ad387, az, aA, e387, ax, ah, hl387_1, hi387_1⟩ := at_T63 HR0.out aa p387 q387
       obtain rfl : ad385 = ad387 := (by injection e387)
       have ab := Aside0.mk hi387_1
       have ac := Aside0.mk hl387_1
       clear hi387_1 hl387_1
       replace p387 := eq_true p387
       replace q387 := eq_true q387
       have ea_ := Option.some.inj (af.symm.trans ah)
       injection ea_ with ea_ en_ ec_
       subst ea_
       subst ec_
       clear en_
       have p388 : 0 ≤ (aa : Int) := of_decide_eq_true rfA
       have q388 : aa < (l1.length : Int) := of_decide_eq_true rfA
       obtain ⟨ad388, aB, aC, e388, ay, ai, hl388_1, hi388_1⟩ := at_T63 HR1.out aa p388 q388
       obtain rfl : ad386 = ad388 := (by injection e388)
       have ad := Aside0.mk hi388_1
       have ae := Aside0.mk hl388_1
       clear hi388_1 hl388_1
       replace p388 := eq_true p388
       replace q388 := eq_true q388
       have ea_ := Option.some.inj (ag.symm.trans ai)
       injection ea_ with ea_ en_ ec_
       subst ea_
       subst ec_
       clear en_
       go_wp2_with (first | (go_at_call 63; (with_reducible refine (graftwoodref01_Same.calls k1 _ _ ((rd_T63 l0 aa).f1) _ _ ((rd_T63 l1 aa).f1) true _ (cW (ab.out)) ac.out (cW (ad.out)) ae.out A8.out).mono ?_); rintro e w' ⟨rfl, ⟨nd, rfl⟩⟩; (try first | exact ⟨rfl, _, World.drewN_drewN _ _ _⟩ | exact ⟨rfl, _, Eq.trans (World.drewN_drewN _ _ _) (congrArg (World.drewN _) (Nat.add_assoc _ _ _))⟩)))
       repeat (go_quiet (first | (go_at_call 63; (with_reducible refine (graftwoodref01_Same.calls k1 _ _ ((rd_T63 l0 aa).f1) _ _ ((rd_T63 l1 aa).f1) true _ (cW (ab.out)) ac.out (cW (ad.out)) ae.out A8.out).mono ?_); rintro e w' ⟨rfl, ⟨nd, rfl⟩⟩; (try first | exact ⟨rfl, _, World.drewN_drewN _ _ _⟩ | exact ⟨rfl, _, Eq.trans (World.drewN_drewN _ _ _) (congrArg (World.drewN _) (Nat.add_assoc _ _ _))⟩))); try go_wp2_with (first | (go_at_call 63; (with_reducible refine (graftwoodref01_Same.calls k1 _ _ ((rd_T63 l0 aa).f1) _ _ ((rd_T63 l1 aa).f1) true _ (cW (ab.out)) ac.out (cW (ad.out)) ae.out A8.out).mono ?_); rintro e w' ⟨rfl, ⟨nd, rfl⟩⟩; (try first | exact ⟨rfl, _, World.drewN_drewN _ _ _⟩ | exact ⟨rfl, _, Eq.trans (World.drewN_drewN _ _ _) (congrArg (World.drewN _) (Nat.add_assoc _ _ _))⟩))))
       go_roundg k1
       case measure => have := HK1.out; omega
       case rel => exact ⟨(wrap64 (aa + 1)), rfG, H', ⟨by have := HK1.out; omega⟩, rfD⟩
      ·obtain rfl := smI H
       have p385 : 0 ≤ (aa : Int) := of_decide_eq_true rfA
       have q385 : aa < (l0.length : Int) := of_decide_eq_true rfA
       obtain ⟨ad385, aq, ar, e385, aj, af, hl385_1, hi385_1⟩ := at_T63 HR0.out aa p385 q385
       cases e385
       have ak := Aside0.mk hi385_1
       have al := Aside0.mk hl385_1
       clear hi385_1 hl385_1
       replace p385 := eq_true p385
       replace q385 := eq_true q385
       have p386 : 0 ≤ (aa : Int) := of_decide_eq_true rfA
       have q386 : aa < (l1.length : Int) := of_decide_eq_true rfA
       obtain ⟨ad386, au, av, e386, an, ag, hl386_1, hi386_1⟩ := at_T63 HR1.out aa p386 q386
       cases e386
       have ao := Aside0.mk hi386_1
       have ap := Aside0.mk hl386_1
       clear hi386_1 hl386_1
       replace p386 := eq_true p386
       replace q386 := eq_true q386
       have p387 : 0 ≤ (aa : Int) := of_decide_eq_true rfA
       have q387 : aa < (l0.length : Int) := of_decide_eq_true rfA
       obtain ⟨ad387, az, aA, e387, ax, ah, hl387_1, hi387_1⟩ := at_T63 HR0.out aa p387 q387
       obtain rfl : ad385 = ad387 := (by injection e387)
       have ab := Aside0.mk hi387_1
       have ac := Aside0.mk hl387_1
       clear hi387_1 hl387_1
       replace p387 := eq_true p387
       replace q387 := eq_true q387
       have ea_ := Option.some.inj (af.symm.trans ah)
       injection ea_ with ea_ en_ ec_
       subst ea_
       subst ec_
       clear en_
       have p388 : 0 ≤ (aa : Int) := of_decide_eq_true rfA
       have q388 : aa < (l1.length : Int) := of_decide_eq_true rfA
       obtain ⟨ad388, aB, aC, e388, ay, ai, hl388_1, hi388_1⟩ := at_T63 HR1.out aa p388 q388
       obtain rfl : ad386 = ad388 := (by injection e388)
       have ad := Aside0.mk hi388_1
       have ae := Aside0.mk hl388_1
       clear hi388_1 hl388_1
       replace p388 := eq_true p388
       replace q388 := eq_true q388
       have ea_ := Option.some.inj (ag.symm.trans ai)
       injection ea_ with ea_ en_ ec_
       subst ea_
       subst ec_
       clear en_
       go_wp2_with (first | (go_at_call 63; (with_reducible refine (graftwoodref01_Same.calls k1 _ _ ((rd_T63 l0 aa).f1) _ _ ((rd_T63 l1 aa).f1) false _ (cW (ab.out)) ac.out (cW (ad.out)) ae.out A8.out).mono ?_); rintro e w' ⟨rfl, ⟨nd, rfl⟩⟩; (try first | exact ⟨rfl, _, World.drewN_drewN _ _ _⟩ | exact ⟨rfl, _, Eq.trans (World.drewN_drewN _ _ _) (congrArg (World.drewN _) (Nat.add_assoc _ _ _))⟩)))
       repeat (go_quiet (first | (go_at_call 63; (with_reducible refine (graftwoodref01_Same.calls k1 _ _ ((rd_T63 l0 aa).f1) _ _ ((rd_T63 l1 aa).f1) false _ (cW (ab.out)) ac.out (cW (ad.out)) ae.out A8.out).mono ?_); rintro e w' ⟨rfl, ⟨nd, rfl⟩⟩; (try first | exact ⟨rfl, _, World.drewN_drewN _ _ _⟩ | exact ⟨rfl, _, Eq.trans (World.drewN_drewN _ _ _) (congrArg (World.drewN _) (Nat.add_assoc _ _ _))⟩))); try go_wp2_with (first | (go_at_call 63; (with_reducible refine (graftwoodref01_Same.calls k1 _ _ ((rd_T63 l0 aa).f1) _ _ ((rd_T63 l1 aa).f1) false _ (cW (ab.out)) ac.out (cW (ad.out)) ae.out A8.out).mono ?_); rintro e w' ⟨rfl, ⟨nd, rfl⟩⟩; (try first | exact ⟨rfl, _, World.drewN_drewN _ _ _⟩ | exact ⟨rfl, _, Eq.trans (World.drewN_drewN _ _ _) (congrArg (World.drewN _) (Nat.add_assoc _ _ _))⟩))))
       go_ret
       exact ⟨rfG, rfD⟩
     ·have aH := beq_eq_false_iff_ne.mpr c7
      have aI := bne_iff_ne.mpr c7
      obtain rfl := smI H
      have p385 : 0 ≤ (aa : Int) := of_decide_eq_true rfA
      have q385 : aa < (l0.length : Int) := of_decide_eq_true rfA
      obtain ⟨ad385, aq, ar, e385, aj, af, hl385_1, hi385_1⟩ := at_T63 HR0.out aa p385 q385
      cases e385
      have ak := Aside0.mk hi385_1
      have al := Aside0.mk hl385_1
      clear hi385_1 hl385_1
      replace p385 := eq_true p385
      replace q385 := eq_true q385
      have p386 : 0 ≤ (aa : Int) := of_decide_eq_true rfA
      have q386 : aa < (l1.length : Int) := of_decide_eq_true rfA
      obtain ⟨ad386, au, av, e386, an, ag, hl386_1, hi386_1⟩ := at_T63 HR1.out aa p386 q386
      cases e386
      have ao := Aside0.mk hi386_1
      have ap := Aside0.mk hl386_1
      clear hi386_1 hl386_1
      replace p386 := eq_true p386
      replace q386 := eq_true q386
      go_wp2
      repeat (go_quiet (fail); try go_wp2)
      go_ret
      exact ⟨rfG, rfD⟩
    ·have aG := decide_eq_false c4
     clear c4
     obtain rfl := smI H
     go_wp2
     repeat (go_quiet (fail); try go_wp2)
     go_ret
     exact ⟨rfG, rfD⟩
 ·have aD := beq_eq_false_iff_ne.mpr c3
  have aE := bne_iff_ne.mpr c3
  have aF : (l0.length == l1.length) = false := by first | simpa using c3 | (simp at c3 ⊢; omega)
  obtain rfl := smI H
  go_enter Tryz.func36, Tryz.ntmps36
  go_wp2
  repeat (go_quiet (fail); try go_wp2)
  go_ret
  exact ⟨rfG, rfD⟩

end Go.Proofs.YtknmfmedklfepaaGreatDoor.P
