-- Written by this project's own program (wip/tools/hp.py), driving the kit's print; hand texts among it. Not trusted: Lean checks it.
-- half the indentation
import Derived.Test.YtomjppafgalaoaaDoorThin
import Derived.Test.YtomjppafgalaoaaDoorP0
import Derived.Test.YtomjppafgalaoaaDoorP1
namespace Go.Proofs.YtomjppafgalaoaaDoor.P
open Go.RowKit Go.Proofs.YtomjppafgalaoaaDoorW.PrintWords Go.Proofs.YtomjppafgalaoaaDoorW.PrintLast Go.Proofs.YtomjppafgalaoaaDoorW.PrintMore
attribute [local go_sem] max2_int min2_int max_two min_two max_three min_three max_four min_four   -- for this text's walks alone
set_option linter.unusedVariables false
set_option linter.unusedSimpArgs false

attribute [local go_sem high] eqA27
/-! ### api_Node_25: function 25 -/
def api_Node_25.l0 : Nat → List (S27) → List (S27) → Int → Int → Option (Bool)
 | 0, _, _, _, _ => none
 | k + 1, x0, x1, x12, x13 => if x13 < x12 then (if 0 ≤ x13 then (if x13 < (x0.length : Int) then (if x13 < (x1.length : Int) then (if (!((((rd_T27 x0 x13).f0).toList) == (((rd_T27 x1 x13).f0).toList)) || (!((((rd_T27 x0 x13).f1).toList) == (((rd_T27 x1 x13).f1).toList)))) = true then (some false) else (api_Node_25.l0 k x0 x1 x12 (wrap64 (x13 + 1)))) else (none)) else (none)) else (none)) else (some true)
def api_Node_25.f (k : Nat) (l0 : List (S27)) (l1 : List (S27)) : Option (Bool) := if (l0.length : Int) = (l1.length : Int) then (api_Node_25.l0 k l0 l1 (l0.length : Int) 0) else (some false)
theorem api_Node_25.mono_l : ∀ k, (∀ y0 y1 y2 y3, LeO (api_Node_25.l0 k y0 y1 y2 y3) (api_Node_25.l0 (k + 1) y0 y1 y2 y3))
 | 0 => fun _ _ _ _ r h => by simp [api_Node_25.l0] at h
 | k + 1 => by
  have ih0 := api_Node_25.mono_l k
  ·intro y0 y1 y2 y3
   unfold api_Node_25.l0
   repeat' first
   | (with_reducible exact ih0 _ _ _ _)
   | (with_reducible exact LeO.refl _)
   | (with_reducible exact LeO.none _)
   | (with_reducible refine LeO.ite ?_ ?_)
   | (with_reducible refine LeO.bind ?_ (fun _ => ?_))
   | exact ih0 _ _ _ _
   | exact LeO.none _
   | refine LeO.ite ?_ ?_
   | refine LeO.bind ?_ (fun _ => ?_)
theorem api_Node_25.mono : ∀ a0 a1 k, LeO (api_Node_25.f k a0 a1) (api_Node_25.f (k + 1) a0 a1) := by
 intro a0 a1 k
 have ih0 := api_Node_25.mono_l k
 unfold api_Node_25.f
 repeat' first
   | (with_reducible exact ih0 _ _ _ _)
   | (with_reducible exact LeO.refl _)
   | (with_reducible exact LeO.none _)
   | (with_reducible refine LeO.ite ?_ ?_)
   | (with_reducible refine LeO.bind ?_ (fun _ => ?_))
   | exact ih0 _ _ _ _
   | exact LeO.none _
   | refine LeO.ite ?_ ?_
   | refine LeO.bind ?_ (fun _ => ?_)
set_option maxHeartbeats 8000000 in
set_option maxRecDepth 100000 in
theorem api_Node_25.calls (k : Nat) (A0 : Option Addr) (c0 : Nat) (l0 : List (S27)) (A1 : Option Addr) (c1 : Nat) (l1 : List (S27)) (r : Bool) (w : World) (hr0 : Kd.C k27 w A0 l0.length l0) (hc0 : l0.length ≤ c0) (hr1 : Kd.C k27 w A1 l1.length l1) (hc1 : l1.length ≤ c1) (h : api_Node_25.f k l0 l1 = some r) :
  Calls Tryd.prog 25 #[.slice A0 l0.length c0, .slice A1 l1.length c1] w fun e w' => e = .returned (.bool r) ∧ Drawn0 w w' := by
 have hu27 := Tryd.underlying27
 have HR0 := Aside0.mk hr0
 have HC0 := Aside0.mk hc0
 clear hr0 hc0
 have HR1 := Aside0.mk hr1
 have HC1 := Aside0.mk hc1
 clear hr1 hc1
 have H : (if (l0.length : Int) = (l1.length : Int) then (api_Node_25.l0 k l0 l1 (l0.length : Int) 0) else (some false)) = some r := h
 clear h
 by_cases c3 : (l0.length : Int) = (l1.length : Int)
 ·rw [if_pos c3] at H
  have au : ((l0.length : Int) == (l1.length : Int)) = true := beq_iff_eq.mpr c3
  have av : ((l0.length : Int) != (l1.length : Int)) = false := bne_eq_false_iff_eq.mpr c3
  have aw : (l0.length == l1.length) = true := by first | simpa using c3 | (simp at c3 ⊢; omega)
  clear c3
  have H' := Aside0.mk H
  clear H
  go_enter Tryd.func25, Tryd.ntmps25
  go_wp2
  repeat (go_quiet (fail); try go_wp2)
  go_loopg [13] k (fun kq v13 w' => ∃ (aa : Int), v13 = .int .i64 aa ∧ Aside0 (api_Node_25.l0 kq l0 l1 (l0.length : Int) aa = some r) ∧ Aside0 (kq ≤ k) ∧ Drawn0 w w')
  case atStart => exact ⟨(0), (by first | rfl | (simp; done) | (simp [*]; done)), H', ⟨Nat.le_refl _⟩, by repeat (first | exact Drawn0.refl _ | apply Drawn0.step)⟩
  case round =>
   clear H'
   try clear c1
   try clear c2
   try clear p2
   try clear c3
   try clear au
   try clear av
   try clear aw
   obtain ⟨aa, rfl, HA, HK1, ⟨m1, rfl⟩⟩ := hrel
   cases gk with
   | zero => exact absurd HA.out (by simp [api_Node_25.l0])
   | succ k1 =>
    have H := HA.out
    clear HA
    simp only [api_Node_25.l0] at H
    by_cases c4 : aa < (l0.length : Int)
    ·rw [if_pos c4] at H
     have aH : decide (aa < (l0.length : Int)) = true := decide_eq_true c4
     clear c4
     by_cases c5 : 0 ≤ aa
     ·rw [if_pos c5] at H
      have a9 : decide (0 ≤ aa) = true := decide_eq_true c5
      clear c5
      by_cases c6 : aa < (l0.length : Int)
      ·rw [if_pos c6] at H
       have a_ : decide (aa < (l0.length : Int)) = true := decide_eq_true c6
       clear c6
       by_cases c7 : aa < (l1.length : Int)
       ·rw [if_pos c7] at H
        have ba : decide (aa < (l1.length : Int)) = true := decide_eq_true c7
        clear c7
        by_cases c8 : (!((((rd_T27 l0 aa).f0).toList) == (((rd_T27 l1 aa).f0).toList)) || (!((((rd_T27 l0 aa).f1).toList) == (((rd_T27 l1 aa).f1).toList)))) = true
        ·rw [if_pos c8] at H
         have aI : (!((((rd_T27 l0 aa).f0).toList) == (((rd_T27 l1 aa).f0).toList)) || (!((((rd_T27 l0 aa).f1).toList) == (((rd_T27 l1 aa).f1).toList)))) = true := c8
         clear c8
         obtain rfl := Option.some.inj H
         have p372 : 0 ≤ (aa : Int) := of_decide_eq_true (by first | (with_reducible assumption) | assumption)
         have q372 : aa < (l0.length : Int) := of_decide_eq_true (by first | (with_reducible assumption) | assumption)
         obtain ⟨ad372, e372, ax, ay⟩ := at_T27 HR0.out aa p372 q372
         cases e372
         replace p372 := eq_true p372
         replace q372 := eq_true q372
         have p373 : 0 ≤ (aa : Int) := of_decide_eq_true (by first | (with_reducible assumption) | assumption)
         have q373 : aa < (l1.length : Int) := of_decide_eq_true (by first | (with_reducible assumption) | assumption)
         obtain ⟨ad373, e373, az, aA⟩ := at_T27 HR1.out aa p373 q373
         cases e373
         replace p373 := eq_true p373
         replace q373 := eq_true q373
         go_wp2
         repeat (go_quiet (fail); try go_wp2)
         go_ret
         exact ⟨by first | rfl | (simp; done) | (simp [*]; done), by repeat (first | exact Drawn0.refl _ | apply Drawn0.step)⟩
        ·rw [if_neg c8] at H
         have aI : (!((((rd_T27 l0 aa).f0).toList) == (((rd_T27 l1 aa).f0).toList)) || (!((((rd_T27 l0 aa).f1).toList) == (((rd_T27 l1 aa).f1).toList)))) = false := by simpa using c8
         clear c8
         have H' := Aside0.mk H
         clear H
         have p372 : 0 ≤ (aa : Int) := of_decide_eq_true (by first | (with_reducible assumption) | assumption)
         have q372 : aa < (l0.length : Int) := of_decide_eq_true (by first | (with_reducible assumption) | assumption)
         obtain ⟨ad372, e372, ax, ay⟩ := at_T27 HR0.out aa p372 q372
         cases e372
         replace p372 := eq_true p372
         replace q372 := eq_true q372
         have p373 : 0 ≤ (aa : Int) := of_decide_eq_true (by first | (with_reducible assumption) | assumption)
         have q373 : aa < (l1.length : Int) := of_decide_eq_true (by first | (with_reducible assumption) | assumption)
         obtain ⟨ad373, e373, az, aA⟩ := at_T27 HR1.out aa p373 q373
         cases e373
         replace p373 := eq_true p373
         replace q373 := eq_true q373
         go_wp2
         repeat (go_quiet (fail); try go_wp2)
         go_roundg k1
         case measure => have := HK1.out; omega
         case rel => exact ⟨(wrap64 (aa + 1)), (by first | rfl | (simp; done) | (simp [*]; done)), H', ⟨by have := HK1.out; omega⟩, by repeat (first | exact Drawn0.refl _ | apply Drawn0.step)⟩
       ·rw [if_neg c7] at H
        exact absurd H (by simp)
      ·rw [if_neg c6] at H
       exact absurd H (by simp)
     ·rw [if_neg c5] at H
      exact absurd H (by simp)
    ·rw [if_neg c4] at H
     have aH : decide (aa < (l0.length : Int)) = false := decide_eq_false c4
     clear c4
     obtain rfl := Option.some.inj H
     go_wp2
     repeat (go_quiet (fail); try go_wp2)
     go_ret
     exact ⟨by first | rfl | (simp; done) | (simp [*]; done), by repeat (first | exact Drawn0.refl _ | apply Drawn0.step)⟩
 ·rw [if_neg c3] at H
  have au : ((l0.length : Int) == (l1.length : Int)) = false := beq_eq_false_iff_ne.mpr c3
  have av : ((l0.length : Int) != (l1.length : Int)) = true := bne_iff_ne.mpr c3
  have aw : (l0.length == l1.length) = false := by first | simpa using c3 | (simp at c3 ⊢; omega)
  obtain rfl := Option.some.inj H
  go_enter Tryd.func25, Tryd.ntmps25
  go_wp2
  repeat (go_quiet (fail); try go_wp2)
  go_ret
  exact ⟨by first | rfl | (simp; done) | (simp [*]; done), by repeat (first | exact Drawn0.refl _ | apply Drawn0.step)⟩

/-! ### slices_Equal_string_string: function 26 -/
def slices_Equal_string_string.l0 : Nat → List ByteArray → List ByteArray → Int → Int → Option (Bool)
 | 0, _, _, _, _ => none
 | k + 1, x0, x1, x12, x13 => if x13 < x12 then (if 0 ≤ x13 then (if x13 < (x0.length : Int) then (if x13 < (x1.length : Int) then (if (rdOf ByteArray.empty x0 x13).toList = (rdOf ByteArray.empty x1 x13).toList then (slices_Equal_string_string.l0 k x0 x1 x12 (wrap64 (x13 + 1))) else (some false)) else (none)) else (none)) else (none)) else (some true)
def slices_Equal_string_string.f (k : Nat) (l0 : List ByteArray) (l1 : List ByteArray) : Option (Bool) := if (l0.length : Int) = (l1.length : Int) then (slices_Equal_string_string.l0 k l0 l1 (l0.length : Int) 0) else (some false)
theorem slices_Equal_string_string.mono_l : ∀ k, (∀ y0 y1 y2 y3, LeO (slices_Equal_string_string.l0 k y0 y1 y2 y3) (slices_Equal_string_string.l0 (k + 1) y0 y1 y2 y3))
 | 0 => fun _ _ _ _ r h => by simp [slices_Equal_string_string.l0] at h
 | k + 1 => by
  have ih0 := slices_Equal_string_string.mono_l k
  ·intro y0 y1 y2 y3
   unfold slices_Equal_string_string.l0
   repeat' first
   | (with_reducible exact ih0 _ _ _ _)
   | (with_reducible exact LeO.refl _)
   | (with_reducible exact LeO.none _)
   | (with_reducible refine LeO.ite ?_ ?_)
   | (with_reducible refine LeO.bind ?_ (fun _ => ?_))
   | exact ih0 _ _ _ _
   | exact LeO.none _
   | refine LeO.ite ?_ ?_
   | refine LeO.bind ?_ (fun _ => ?_)
theorem slices_Equal_string_string.mono : ∀ a0 a1 k, LeO (slices_Equal_string_string.f k a0 a1) (slices_Equal_string_string.f (k + 1) a0 a1) := by
 intro a0 a1 k
 have ih0 := slices_Equal_string_string.mono_l k
 unfold slices_Equal_string_string.f
 repeat' first
   | (with_reducible exact ih0 _ _ _ _)
   | (with_reducible exact LeO.refl _)
   | (with_reducible exact LeO.none _)
   | (with_reducible refine LeO.ite ?_ ?_)
   | (with_reducible refine LeO.bind ?_ (fun _ => ?_))
   | exact ih0 _ _ _ _
   | exact LeO.none _
   | refine LeO.ite ?_ ?_
   | refine LeO.bind ?_ (fun _ => ?_)
set_option maxHeartbeats 8000000 in
set_option maxRecDepth 100000 in
theorem slices_Equal_string_string.calls (k : Nat) (A0 : Option Addr) (c0 : Nat) (l0 : List ByteArray) (A1 : Option Addr) (c1 : Nat) (l1 : List ByteArray) (r : Bool) (w : World) (hr0 : Kd.C Kd.string w A0 l0.length l0) (hc0 : l0.length ≤ c0) (hr1 : Kd.C Kd.string w A1 l1.length l1) (hc1 : l1.length ≤ c1) (h : slices_Equal_string_string.f k l0 l1 = some r) :
  Calls Tryd.prog 26 #[.slice A0 l0.length c0, .slice A1 l1.length c1] w fun e w' => e = .returned (.bool r) ∧ Drawn0 w w' := by
 have HR0 := Aside0.mk hr0
 have HC0 := Aside0.mk hc0
 clear hr0 hc0
 have HR1 := Aside0.mk hr1
 have HC1 := Aside0.mk hc1
 clear hr1 hc1
 have H : (if (l0.length : Int) = (l1.length : Int) then (slices_Equal_string_string.l0 k l0 l1 (l0.length : Int) 0) else (some false)) = some r := h
 clear h
 by_cases c3 : (l0.length : Int) = (l1.length : Int)
 ·rw [if_pos c3] at H
  have au : ((l0.length : Int) == (l1.length : Int)) = true := beq_iff_eq.mpr c3
  have av : ((l0.length : Int) != (l1.length : Int)) = false := bne_eq_false_iff_eq.mpr c3
  have aw : (l0.length == l1.length) = true := by first | simpa using c3 | (simp at c3 ⊢; omega)
  clear c3
  have H' := Aside0.mk H
  clear H
  go_enter Tryd.func26, Tryd.ntmps26
  go_wp2
  repeat (go_quiet (fail); try go_wp2)
  go_loopg [13] k (fun kq v13 w' => ∃ (aa : Int), v13 = .int .i64 aa ∧ Aside0 (slices_Equal_string_string.l0 kq l0 l1 (l0.length : Int) aa = some r) ∧ Aside0 (kq ≤ k) ∧ Drawn0 w w')
  case atStart => exact ⟨(0), (by first | rfl | (simp; done) | (simp [*]; done)), H', ⟨Nat.le_refl _⟩, by repeat (first | exact Drawn0.refl _ | apply Drawn0.step)⟩
  case round =>
   clear H'
   try clear c1
   try clear c2
   try clear p2
   try clear c3
   try clear au
   try clear av
   try clear aw
   obtain ⟨aa, rfl, HA, HK1, ⟨m1, rfl⟩⟩ := hrel
   cases gk with
   | zero => exact absurd HA.out (by simp [slices_Equal_string_string.l0])
   | succ k1 =>
    have H := HA.out
    clear HA
    simp only [slices_Equal_string_string.l0] at H
    by_cases c4 : aa < (l0.length : Int)
    ·rw [if_pos c4] at H
     have aH : decide (aa < (l0.length : Int)) = true := decide_eq_true c4
     clear c4
     by_cases c5 : 0 ≤ aa
     ·rw [if_pos c5] at H
      have a9 : decide (0 ≤ aa) = true := decide_eq_true c5
      clear c5
      by_cases c6 : aa < (l0.length : Int)
      ·rw [if_pos c6] at H
       have a_ : decide (aa < (l0.length : Int)) = true := decide_eq_true c6
       clear c6
       by_cases c7 : aa < (l1.length : Int)
       ·rw [if_pos c7] at H
        have ba : decide (aa < (l1.length : Int)) = true := decide_eq_true c7
        clear c7
        by_cases c8 : (rdOf ByteArray.empty l0 aa).toList = (rdOf ByteArray.empty l1 aa).toList
        ·rw [if_pos c8] at H
         have aI : ((rdOf ByteArray.empty l0 aa).toList == (rdOf ByteArray.empty l1 aa).toList) = true := beq_iff_eq.mpr c8
         have bb : ((rdOf ByteArray.empty l0 aa).toList != (rdOf ByteArray.empty l1 aa).toList) = false := bne_eq_false_iff_eq.mpr c8
         clear c8
         have H' := Aside0.mk H
         clear H
         have p374 : 0 ≤ (aa : Int) := of_decide_eq_true (by first | (with_reducible assumption) | assumption)
         have q374 : aa < (l0.length : Int) := of_decide_eq_true (by first | (with_reducible assumption) | assumption)
         obtain ⟨ad374, e374, aB⟩ := Kd.at_string HR0.out aa p374 q374
         cases e374
         replace p374 := eq_true p374
         replace q374 := eq_true q374
         have p375 : 0 ≤ (aa : Int) := of_decide_eq_true (by first | (with_reducible assumption) | assumption)
         have q375 : aa < (l1.length : Int) := of_decide_eq_true (by first | (with_reducible assumption) | assumption)
         obtain ⟨ad375, e375, aC⟩ := Kd.at_string HR1.out aa p375 q375
         cases e375
         replace p375 := eq_true p375
         replace q375 := eq_true q375
         go_wp2
         repeat (go_quiet (fail); try go_wp2)
         go_roundg k1
         case measure => have := HK1.out; omega
         case rel => exact ⟨(wrap64 (aa + 1)), (by first | rfl | (simp; done) | (simp [*]; done)), H', ⟨by have := HK1.out; omega⟩, by repeat (first | exact Drawn0.refl _ | apply Drawn0.step)⟩
        ·rw [if_neg c8] at H
         have aI : ((rdOf ByteArray.empty l0 aa).toList == (rdOf ByteArray.empty l1 aa).toList) = false := beq_eq_false_iff_ne.mpr c8
         have bb : ((rdOf ByteArray.empty l0 aa).toList != (rdOf ByteArray.empty l1 aa).toList) = true := bne_iff_ne.mpr c8
         obtain rfl := Option.some.inj H
         have p374 : 0 ≤ (aa : Int) := of_decide_eq_true (by first | (with_reducible assumption) | assumption)
         have q374 : aa < (l0.length : Int) := of_decide_eq_true (by first | (with_reducible assumption) | assumption)
         obtain ⟨ad374, e374, aB⟩ := Kd.at_string HR0.out aa p374 q374
         cases e374
         replace p374 := eq_true p374
         replace q374 := eq_true q374
         have p375 : 0 ≤ (aa : Int) := of_decide_eq_true (by first | (with_reducible assumption) | assumption)
         have q375 : aa < (l1.length : Int) := of_decide_eq_true (by first | (with_reducible assumption) | assumption)
         obtain ⟨ad375, e375, aC⟩ := Kd.at_string HR1.out aa p375 q375
         cases e375
         replace p375 := eq_true p375
         replace q375 := eq_true q375
         go_wp2
         repeat (go_quiet (fail); try go_wp2)
         go_ret
         exact ⟨by first | rfl | (simp; done) | (simp [*]; done), by repeat (first | exact Drawn0.refl _ | apply Drawn0.step)⟩
       ·rw [if_neg c7] at H
        exact absurd H (by simp)
      ·rw [if_neg c6] at H
       exact absurd H (by simp)
     ·rw [if_neg c5] at H
      exact absurd H (by simp)
    ·rw [if_neg c4] at H
     have aH : decide (aa < (l0.length : Int)) = false := decide_eq_false c4
     clear c4
     obtain rfl := Option.some.inj H
     go_wp2
     repeat (go_quiet (fail); try go_wp2)
     go_ret
     exact ⟨by first | rfl | (simp; done) | (simp [*]; done), by repeat (first | exact Drawn0.refl _ | apply Drawn0.step)⟩
 ·rw [if_neg c3] at H
  have au : ((l0.length : Int) == (l1.length : Int)) = false := beq_eq_false_iff_ne.mpr c3
  have av : ((l0.length : Int) != (l1.length : Int)) = true := bne_iff_ne.mpr c3
  have aw : (l0.length == l1.length) = false := by first | simpa using c3 | (simp at c3 ⊢; omega)
  obtain rfl := Option.some.inj H
  go_enter Tryd.func26, Tryd.ntmps26
  go_wp2
  repeat (go_quiet (fail); try go_wp2)
  go_ret
  exact ⟨by first | rfl | (simp; done) | (simp [*]; done), by repeat (first | exact Drawn0.refl _ | apply Drawn0.step)⟩

/-! ### store_Same: function 14 -/
def store_Same.f (k : Nat) (l0_0 : List (S27)) (l0_1 : List ByteArray) (l1_0 : List (S27)) (l1_1 : List ByteArray) : Option (Bool) := (api_Node_25.f k l0_0 l1_0).bind fun an => (if an = true then ((slices_Equal_string_string.f k l0_1 l1_1).bind fun af => (some af)) else (some false))
theorem store_Same.mono : ∀ a0 a1 a2 a3 k, LeO (store_Same.f k a0 a1 a2 a3) (store_Same.f (k + 1) a0 a1 a2 a3) := by
 intro a0 a1 a2 a3 k
 unfold store_Same.f
 repeat' first
   | (with_reducible exact api_Node_25.mono _ _ _)
   | (with_reducible exact slices_Equal_string_string.mono _ _ _)
   | (with_reducible exact LeO.refl _)
   | (with_reducible exact LeO.none _)
   | (with_reducible refine LeO.ite ?_ ?_)
   | (with_reducible refine LeO.bind ?_ (fun _ => ?_))
   | exact api_Node_25.mono _ _ _
   | exact slices_Equal_string_string.mono _ _ _
   | exact LeO.none _
   | refine LeO.ite ?_ ?_
   | refine LeO.bind ?_ (fun _ => ?_)
set_option maxHeartbeats 8000000 in
set_option maxRecDepth 100000 in
theorem store_Same.calls (k : Nat) (ag : Option Addr) (ah : Nat) (l0_0 : List (S27)) (ao : Option Addr) (ap : Nat) (l0_1 : List ByteArray) (ai : Option Addr) (aj : Nat) (l1_0 : List (S27)) (aq : Option Addr) (ar : Nat) (l1_1 : List ByteArray) (r : Bool) (w : World) (hr0_0 : Kd.C k27 w ag l0_0.length l0_0) (hc0_0 : l0_0.length ≤ ah) (hr0_1 : Kd.C Kd.string w ao l0_1.length l0_1) (hc0_1 : l0_1.length ≤ ap) (hr1_0 : Kd.C k27 w ai l1_0.length l1_0) (hc1_0 : l1_0.length ≤ aj) (hr1_1 : Kd.C Kd.string w aq l1_1.length l1_1) (hc1_1 : l1_1.length ≤ ar) (h : store_Same.f k l0_0 l0_1 l1_0 l1_1 = some r) :
  Calls Tryd.prog 14 #[.agg #[.slice ag l0_0.length ah, .slice ao l0_1.length ap], .agg #[.slice ai l1_0.length aj, .slice aq l1_1.length ar]] w fun e w' => e = .returned (.bool r) ∧ Below w.heap.size w w' := by
 have hu25 := Tryd.underlying25
 have aD := Aside0.mk hr0_0
 have aE := Aside0.mk hc0_0
 clear hr0_0 hc0_0
 have aJ := Aside0.mk hr0_1
 have aK := Aside0.mk hc0_1
 clear hr0_1 hc0_1
 have aF := Aside0.mk hr1_0
 have aG := Aside0.mk hc1_0
 clear hr1_0 hc1_0
 have aL := Aside0.mk hr1_1
 have aM := Aside0.mk hc1_1
 clear hr1_1 hc1_1
 have HB := am (Below.refl w.heap.size w)
 have H : ((api_Node_25.f k l0_0 l1_0).bind fun an => (if an = true then ((slices_Equal_string_string.f k l0_1 l1_1).bind fun af => (some af)) else (some false))) = some r := h
 clear h
 replace H := Option.bind_eq_some_iff.mp H
 obtain ⟨an, A30, H⟩ := H
 replace H : (if an = true then ((slices_Equal_string_string.f k l0_1 l1_1).bind fun af => (some af)) else (some false)) = some r := H
 have A3 := Aside0.mk A30
 clear A30
 by_cases c4 : an = true
 ·subst c4
  have H1 : ((slices_Equal_string_string.f k l0_1 l1_1).bind fun af => (some af)) = some r := by rw [if_pos rfl] at H; exact H
  clear H
  have H := H1
  clear H1
  replace H := Option.bind_eq_some_iff.mp H
  obtain ⟨af, A50, H⟩ := H
  replace H : (some af) = some r := H
  have A5 := Aside0.mk A50
  clear A50
  obtain rfl := Option.some.inj H
  go_enter Tryd.func14, Tryd.ntmps14
  go_wp2_with (first | ((with_reducible refine gate_dst (N := 2) rfl ?_); refine box_event ?hg (N := 2) ?hd (cs := #[.slice ag l0_0.length ah, .slice ao l0_1.length ap]) (t := 25) ?hr ?_; (case hd => rfl); (case hg => rfl); (case hr => first | (go_simp; done) | (go_simp; rfl)); intro ak hg w6 hbox hb; have ab := am (hbox); have aN := am ((gT hg HB.out)); have aO := am ((gT hg HB.out)); replace HB := am (sT HB.out hb); clear hb hbox hg) | ((with_reducible refine gate_dst (N := 3) rfl ?_); refine box_event ?hg (N := 3) ?hd (cs := #[.slice ai l1_0.length aj, .slice aq l1_1.length ar]) (t := 25) ?hr ?_; (case hd => rfl); (case hg => rfl); (case hr => first | (go_simp; done) | (go_simp; rfl)); intro al hg w7 hbox hb; have ac := am (hbox); have aP := am ((gT hg HB.out)); have aQ := am ((gT hg HB.out)); have ad := am ((nT ab.out hg)); have ae := am ((mT ab.out hg)); replace ab := am (bB ab.out hb); replace HB := am (sT HB.out hb); clear hb hbox hg; have bi := ad.out; have bj := ae.out; have bc : w7.cell? ⟨ak, 0, none⟩ = some (.slice ag l0_0.length ah) := (blk_cell ab.out 0).trans rfl; have bd : w7.cell? ⟨ak, 1, none⟩ = some (.slice ao l0_1.length ap) := (blk_cell ab.out 1).trans rfl; have be := blk_frozen ab.out 0; have bf := blk_frozen ab.out 1; have aR : w7.cell? ⟨al, 0, none⟩ = some (.slice ai l1_0.length aj) := (blk_cell ac.out 0).trans rfl; have aU : w7.cell? ⟨al, 1, none⟩ = some (.slice aq l1_1.length ar) := (blk_cell ac.out 1).trans rfl; have aV := blk_frozen ac.out 0; have aW := blk_frozen ac.out 1) | ((with_reducible refine gate_callee (f := 25) rfl ?_); refine goesL_ (some 9) rfl rfl Tryd.func25 (by kernel_rfl) rfl #[.slice ag l0_0.length ah, .slice ai l1_0.length aj] rfl (by (try simp only [List.map_toArray, List.map_cons, List.map_nil]); first | done | rfl | (simp only [List.length_drop, List.length_take]; rfl)) ?_; (with_reducible refine (api_Node_25.calls k _ _ l0_0 _ _ l1_0 true _ ?side1 ?side2 ?side3 ?side4 A3.out).mono ?_); (case side1 => repeat (first | exact (Kd.C_below aD.out HB.out) | (with_reducible refine Kd.C_alloc ?_ _) | (with_reducible refine Kd.C_drewN ?_ _) | (with_reducible refine Kd.C_drew ?_))); (case side2 => exact aE.out); (case side3 => repeat (first | exact (Kd.C_below aF.out HB.out) | (with_reducible refine Kd.C_alloc ?_ _) | (with_reducible refine Kd.C_drewN ?_ _) | (with_reducible refine Kd.C_drew ?_))); (case side4 => exact aG.out); rintro e w' ⟨rfl, ⟨nd, rfl⟩⟩; refine ⟨_, rfl, ?_⟩) | (go_at_call 26; (with_reducible refine (slices_Equal_string_string.calls k _ _ l0_1 _ _ l1_1 af _ ?side1 ?side2 ?side3 ?side4 A5.out).mono ?_); (case side1 => repeat (first | exact (Kd.C_below aJ.out (eT HB.out)) | (with_reducible refine Kd.C_alloc ?_ _) | (with_reducible refine Kd.C_drewN ?_ _) | (with_reducible refine Kd.C_drew ?_))); (case side2 => exact aK.out); (case side3 => repeat (first | exact (Kd.C_below aL.out (eT HB.out)) | (with_reducible refine Kd.C_alloc ?_ _) | (with_reducible refine Kd.C_drewN ?_ _) | (with_reducible refine Kd.C_drew ?_))); (case side4 => exact aM.out); rintro e w' ⟨rfl, ⟨nd, rfl⟩⟩))
  go_ret
  exact ⟨by first | rfl | (simp [errW_none, errW_some] <;> rfl) | (simp [*, errW_none, errW_some] <;> rfl), eT HB.out⟩
 ·replace c4 := Bool.eq_false_iff.mpr c4
  subst c4
  have H1 : (some false) = some r := by rw [if_neg (show ¬ (false = true) by decide)] at H; exact H
  clear H
  have H := H1
  clear H1
  obtain rfl := Option.some.inj H
  go_enter Tryd.func14, Tryd.ntmps14
  go_wp2_with (first | ((with_reducible refine gate_dst (N := 2) rfl ?_); refine box_event ?hg (N := 2) ?hd (cs := #[.slice ag l0_0.length ah, .slice ao l0_1.length ap]) (t := 25) ?hr ?_; (case hd => rfl); (case hg => rfl); (case hr => first | (go_simp; done) | (go_simp; rfl)); intro ak hg w11 hbox hb; have ab := am (hbox); have aN := am ((gT hg HB.out)); have aO := am ((gT hg HB.out)); replace HB := am (sT HB.out hb); clear hb hbox hg) | ((with_reducible refine gate_dst (N := 3) rfl ?_); refine box_event ?hg (N := 3) ?hd (cs := #[.slice ai l1_0.length aj, .slice aq l1_1.length ar]) (t := 25) ?hr ?_; (case hd => rfl); (case hg => rfl); (case hr => first | (go_simp; done) | (go_simp; rfl)); intro al hg w12 hbox hb; have ac := am (hbox); have aP := am ((gT hg HB.out)); have aQ := am ((gT hg HB.out)); have ad := am ((nT ab.out hg)); have ae := am ((mT ab.out hg)); replace ab := am (bB ab.out hb); replace HB := am (sT HB.out hb); clear hb hbox hg; have bg := ad.out; have bh := ae.out; have aX : w12.cell? ⟨ak, 0, none⟩ = some (.slice ag l0_0.length ah) := (blk_cell ab.out 0).trans rfl; have aY : w12.cell? ⟨ak, 1, none⟩ = some (.slice ao l0_1.length ap) := (blk_cell ab.out 1).trans rfl; have aZ := blk_frozen ab.out 0; have a4 := blk_frozen ab.out 1; have a5 : w12.cell? ⟨al, 0, none⟩ = some (.slice ai l1_0.length aj) := (blk_cell ac.out 0).trans rfl; have a6 : w12.cell? ⟨al, 1, none⟩ = some (.slice aq l1_1.length ar) := (blk_cell ac.out 1).trans rfl; have a7 := blk_frozen ac.out 0; have a8 := blk_frozen ac.out 1) | ((with_reducible refine gate_callee (f := 25) rfl ?_); refine goesL_ (some 9) rfl rfl Tryd.func25 (by kernel_rfl) rfl #[.slice ag l0_0.length ah, .slice ai l1_0.length aj] rfl (by (try simp only [List.map_toArray, List.map_cons, List.map_nil]); first | done | rfl | (simp only [List.length_drop, List.length_take]; rfl)) ?_; (with_reducible refine (api_Node_25.calls k _ _ l0_0 _ _ l1_0 false _ ?side1 ?side2 ?side3 ?side4 A3.out).mono ?_); (case side1 => repeat (first | exact (Kd.C_below aD.out HB.out) | (with_reducible refine Kd.C_alloc ?_ _) | (with_reducible refine Kd.C_drewN ?_ _) | (with_reducible refine Kd.C_drew ?_))); (case side2 => exact aE.out); (case side3 => repeat (first | exact (Kd.C_below aF.out HB.out) | (with_reducible refine Kd.C_alloc ?_ _) | (with_reducible refine Kd.C_drewN ?_ _) | (with_reducible refine Kd.C_drew ?_))); (case side4 => exact aG.out); rintro e w' ⟨rfl, ⟨nd, rfl⟩⟩; refine ⟨_, rfl, ?_⟩))
  go_ret
  exact ⟨by first | rfl | (simp [errW_none, errW_some] <;> rfl) | (simp [*, errW_none, errW_some] <;> rfl), eT HB.out⟩

end Go.Proofs.YtomjppafgalaoaaDoor.P
