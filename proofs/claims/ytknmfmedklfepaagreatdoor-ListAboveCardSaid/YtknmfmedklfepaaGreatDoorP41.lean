-- half the indentation
import Derived.Test.YtknmfmedklfepaaGreatDoorSqz
import Derived.Test.YtknmfmedklfepaaGreatDoorP0
import Derived.Test.YtknmfmedklfepaaGreatDoorP29
import Derived.Test.YtknmfmedklfepaaGreatDoorP38
namespace Go.Proofs.YtknmfmedklfepaaGreatDoor.P
open Go.RowKit Go.Proofs.YtknmfmedklfepaaGreatDoorW.PrintWords Go.Proofs.YtknmfmedklfepaaGreatDoorW.PrintLast Go.Proofs.YtknmfmedklfepaaGreatDoorW.PrintMore
attribute [local go_sem] max2_int min2_int max_two min_two max_three min_three max_four min_four
set_option linter.unusedVariables false
set_option linter.unusedSimpArgs false
set_option maxHeartbeats 8000000
set_option maxRecDepth 100000

/-! ### graftwoodref17_Above: function 21 -/
def graftwoodref17_Above.l0 : Nat → List (S55) → List (S55) → Int → Option (Bool)
 | 0, _, _, _ => none
 | k + 1, x0, x1, x5 => if x5 < (x0.length : Int) then (if 0 ≤ x5 then ((graftwoodref17_Pick.f k x1 ((rd_T55 x0 x5).f0)).bind fun af => (if af.toList = ([] : List UInt8) then (some false) else ((graftwoodref03_Cmp.f k af ((rd_T55 x0 x5).f1)).bind fun ag => (if ag < 0 then (some false) else (graftwoodref17_Above.l0 k x0 x1 (wrap64 (x5 + 1))))))) else (none)) else (some true)
def graftwoodref17_Above.f (k : Nat) (l0 : List (S55)) (l1 : List (S55)) : Option (Bool) := graftwoodref17_Above.l0 k l0 l1 0
theorem graftwoodref17_Above.mono_l : ∀ k, (∀ y0 y1 y2, LeO (graftwoodref17_Above.l0 k y0 y1 y2) (graftwoodref17_Above.l0 (k + 1) y0 y1 y2))
 | 0 => fun _ _ _ r h => by simp [graftwoodref17_Above.l0] at h
 | k + 1 => by
  have ih0 := graftwoodref17_Above.mono_l k
  ·intro y0 y1 y2
   unfold graftwoodref17_Above.l0
   repeat' first | (with_reducible first | apply ih0 | apply graftwoodref03_Cmp.mono | apply graftwoodref17_Pick.mono | apply LeO.refl | apply LeO.none | apply LeO.ite | refine LeO.bind ?_ (fun _ => ?_)) | apply ih0 | apply graftwoodref03_Cmp.mono | apply graftwoodref17_Pick.mono | exact LeO.none _ | refine LeO.ite ?_ ?_ | refine LeO.bind ?_ (fun _ => ?_)
theorem graftwoodref17_Above.mono : ∀ a0 a1 k, LeO (graftwoodref17_Above.f k a0 a1) (graftwoodref17_Above.f (k + 1) a0 a1) := by
 intro a0 a1 k
 have ih0 := graftwoodref17_Above.mono_l k
 unfold graftwoodref17_Above.f
 repeat' first | (with_reducible first | apply ih0 | apply graftwoodref03_Cmp.mono | apply graftwoodref17_Pick.mono | apply LeO.refl | apply LeO.none | apply LeO.ite | refine LeO.bind ?_ (fun _ => ?_)) | apply ih0 | apply graftwoodref03_Cmp.mono | apply graftwoodref17_Pick.mono | exact LeO.none _ | refine LeO.ite ?_ ?_ | refine LeO.bind ?_ (fun _ => ?_)
theorem graftwoodref17_Above.calls (k : Nat) (A0 : Option Addr) (c0 : Nat) (l0 : List (S55)) (A1 : Option Addr) (c1 : Nat) (l1 : List (S55)) (r : Bool) (w : World) (hr0 : Kd.C k55 w A0 l0.length l0) (hc0 : l0.length ≤ c0) (hr1 : Kd.C k55 w A1 l1.length l1) (hc1 : l1.length ≤ c1) (h : graftwoodref17_Above.f k l0 l1 = some r) :
  Calls Tryz.prog 21 #[.slice A0 l0.length c0, .slice A1 l1.length c1] w fun e w' => e = .returned (.bool r) ∧ Below w.heap.size w w' := by
 have HR0 := Aside0.mk hr0
 have HC0 := Aside0.mk hc0
 clear hr0 hc0
 have HR1 := Aside0.mk hr1
 have HC1 := Aside0.mk hc1
 clear hr1 hc1
 have HB := am (Below.refl w.heap.size w)
 unfold graftwoodref17_Above.f at h; have H := h; clear h
 have H' := Aside0.mk H
 clear H
 go_enter Tryz.func21, Tryz.ntmps21
 go_wp2
 go_loopg [5] k (fun kq v5 w' => ∃ (aa : Int), v5 = .int .i64 aa ∧ Aside0 (graftwoodref17_Above.l0 kq l0 l1 aa = some r) ∧ Aside0 (kq ≤ k) ∧ Aside0 (Below w.heap.size w w'))
 case atStart => exact ⟨(0), rfG, H', ⟨Nat.le_refl _⟩, ⟨eTx HB.out⟩⟩
 case round =>
  clear H'
  obtain ⟨aa, rfl, HA, HK1, HB⟩ := hrel
  cases gk with
  | zero => exact absurd HA.out (by simp [graftwoodref17_Above.l0])
  | succ k1 =>
   have H := HA.out
   clear HA
   simp only [graftwoodref17_Above.l0] at H
   replace H := ifP H; rcases H with ⟨c3, H⟩ | ⟨c3, H⟩
   ·have ah := decide_eq_true c3
    clear c3
    replace H := ifN H; obtain ⟨c4, H⟩ := H
    have al := decide_eq_true c4
    clear c4
    replace H := bnd H; obtain ⟨af, A5, H⟩ := H
    replace H := ifP H; rcases H with ⟨c6, H⟩ | ⟨c6, H⟩
    ·have ai := beq_iff_eq.mpr c6
     have aj := bne_eq_false_iff_eq.mpr c6
     clear c6
     obtain rfl := smI H
     have p488 : 0 ≤ (aa : Int) := of_decide_eq_true rfA
     have q488 : aa < (l0.length : Int) := of_decide_eq_true rfA
     obtain ⟨ad488, e488, ab, ac⟩ := at_T55 HR0.out aa p488 q488
     cases e488
     replace ab := (HB.out.cell (World.block_lt_of_cell? w _ ab)).trans ab
     replace ac := (HB.out.cell (World.block_lt_of_cell? w _ ac)).trans ac
     replace p488 := eq_true p488
     replace q488 := eq_true q488
     go_wp2_with (first | ((with_reducible refine gtC 19 ?_); refine xCz 19 Tryz.func19 (graftwoodref17_Pick.calls k1 _ _ l1 ((rd_T55 l0 aa).f0) af _ (cW (Kd.C_below HR1.out HB.out)) HC1.out A5.out) fun nd => ?_))
     go_ret
     exact ⟨rfF, eTx HB.out⟩
    ·have ai := beq_eq_false_iff_ne.mpr c6
     have aj := bne_iff_ne.mpr c6
     replace H := bnd H; obtain ⟨ag, A7, H⟩ := H
     replace H := ifP H; rcases H with ⟨c8, H⟩ | ⟨c8, H⟩
     ·have ak := decide_eq_true c8
      clear c8
      obtain rfl := smI H
      have p488 : 0 ≤ (aa : Int) := of_decide_eq_true rfA
      have q488 : aa < (l0.length : Int) := of_decide_eq_true rfA
      obtain ⟨ad488, e488, ab, ac⟩ := at_T55 HR0.out aa p488 q488
      cases e488
      replace ab := (HB.out.cell (World.block_lt_of_cell? w _ ab)).trans ab
      replace ac := (HB.out.cell (World.block_lt_of_cell? w _ ac)).trans ac
      replace p488 := eq_true p488
      replace q488 := eq_true q488
      go_wp2_with (first | ((with_reducible refine gtC 19 ?_); refine xCz 19 Tryz.func19 (graftwoodref17_Pick.calls k1 _ _ l1 ((rd_T55 l0 aa).f0) af _ (cW (Kd.C_below HR1.out HB.out)) HC1.out A5.out) fun nd => ?_; have p490 : 0 ≤ (aa : Int) := of_decide_eq_true rfA; have q490 : aa < (l0.length : Int) := of_decide_eq_true rfA; obtain ⟨ad490, e490, ad, ae⟩ := at_T55 HR0.out aa p490 q490; obtain rfl : ad488 = ad490 := (by injection e490); replace ad := (HB.out.cell (World.block_lt_of_cell? w _ ad)).trans ad; replace ae := (HB.out.cell (World.block_lt_of_cell? w _ ae)).trans ae; replace p490 := eq_true p490; replace q490 := eq_true q490) | (go_at_call 42; (with_reducible refine (graftwoodref03_Cmp.calls k1 af ((rd_T55 l0 aa).f1) ag _ A7.out).mono ?_); rintro e w9 ⟨rfl, hb⟩; replace HB := am (sTx HB.out hb)))
      go_ret
      exact ⟨rfF, eTx HB.out⟩
     ·have ak := decide_eq_false c8
      clear c8
      have H' := Aside0.mk H
      clear H
      have p488 : 0 ≤ (aa : Int) := of_decide_eq_true rfA
      have q488 : aa < (l0.length : Int) := of_decide_eq_true rfA
      obtain ⟨ad488, e488, ab, ac⟩ := at_T55 HR0.out aa p488 q488
      cases e488
      replace ab := (HB.out.cell (World.block_lt_of_cell? w _ ab)).trans ab
      replace ac := (HB.out.cell (World.block_lt_of_cell? w _ ac)).trans ac
      replace p488 := eq_true p488
      replace q488 := eq_true q488
      go_wp2_with (first | ((with_reducible refine gtC 19 ?_); refine xCz 19 Tryz.func19 (graftwoodref17_Pick.calls k1 _ _ l1 ((rd_T55 l0 aa).f0) af _ (cW (Kd.C_below HR1.out HB.out)) HC1.out A5.out) fun nd => ?_; have p490 : 0 ≤ (aa : Int) := of_decide_eq_true rfA; have q490 : aa < (l0.length : Int) := of_decide_eq_true rfA; obtain ⟨ad490, e490, ad, ae⟩ := at_T55 HR0.out aa p490 q490; obtain rfl : ad488 = ad490 := (by injection e490); replace ad := (HB.out.cell (World.block_lt_of_cell? w _ ad)).trans ad; replace ae := (HB.out.cell (World.block_lt_of_cell? w _ ae)).trans ae; replace p490 := eq_true p490; replace q490 := eq_true q490) | (go_at_call 42; (with_reducible refine (graftwoodref03_Cmp.calls k1 af ((rd_T55 l0 aa).f1) ag _ A7.out).mono ?_); rintro e w10 ⟨rfl, hb⟩; replace HB := am (sTx HB.out hb)))
      go_roundg k1
      case measure => have := HK1.out; omega
      case rel => exact ⟨(wrap64 (aa + 1)), rfG, H', ⟨by have := HK1.out; omega⟩, ⟨eTx HB.out⟩⟩
   ·have ah := decide_eq_false c3
    clear c3
    obtain rfl := smI H
    go_wp2
    go_ret
    exact ⟨rfF, eTx HB.out⟩

end Go.Proofs.YtknmfmedklfepaaGreatDoor.P
