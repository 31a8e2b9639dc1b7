-- half the indentation
import Derived.Test.YtknmfmedklfepaaGreatDoorSqz
import Derived.Test.YtknmfmedklfepaaGreatDoorP0
namespace Go.Proofs.YtknmfmedklfepaaGreatDoor.P
open Go.RowKit Go.Proofs.YtknmfmedklfepaaGreatDoorW.PrintWords Go.Proofs.YtknmfmedklfepaaGreatDoorW.PrintLast Go.Proofs.YtknmfmedklfepaaGreatDoorW.PrintMore
attribute [local go_sem] max2_int min2_int max_two min_two max_three min_three max_four min_four
set_option linter.unusedVariables false
set_option linter.unusedSimpArgs false
set_option maxHeartbeats 8000000
set_option maxRecDepth 100000

/-! ### graftwoodref17_Pick: function 19 -/
def graftwoodref17_Pick.l0 : Nat → List (S55) → ByteArray → Int → Option (ByteArray)
 | 0, _, _, _ => none
 | k + 1, x0, x1, x5 => if x5 < (x0.length : Int) then (if 0 ≤ x5 then (if ((rd_T55 x0 x5).f0).toList = x1.toList then (some ((rd_T55 x0 x5).f1)) else (graftwoodref17_Pick.l0 k x0 x1 (wrap64 (x5 + 1)))) else (none)) else (some (⟨#[]⟩ : ByteArray))
def graftwoodref17_Pick.f (k : Nat) (l0 : List (S55)) (a1 : ByteArray) : Option (ByteArray) := graftwoodref17_Pick.l0 k l0 a1 0
theorem graftwoodref17_Pick.mono_l : ∀ k, (∀ y0 y1 y2, LeO (graftwoodref17_Pick.l0 k y0 y1 y2) (graftwoodref17_Pick.l0 (k + 1) y0 y1 y2))
 | 0 => fun _ _ _ r h => by simp [graftwoodref17_Pick.l0] at h
 | k + 1 => by
  have ih0 := graftwoodref17_Pick.mono_l k
  ·intro y0 y1 y2
   unfold graftwoodref17_Pick.l0
   repeat' first | (with_reducible first | apply ih0 | apply LeO.refl | apply LeO.none | apply LeO.ite | refine LeO.bind ?_ (fun _ => ?_)) | apply ih0 | exact LeO.none _ | refine LeO.ite ?_ ?_ | refine LeO.bind ?_ (fun _ => ?_)
theorem graftwoodref17_Pick.mono : ∀ a0 a1 k, LeO (graftwoodref17_Pick.f k a0 a1) (graftwoodref17_Pick.f (k + 1) a0 a1) := by
 intro a0 a1 k
 have ih0 := graftwoodref17_Pick.mono_l k
 unfold graftwoodref17_Pick.f
 repeat' first | (with_reducible first | apply ih0 | apply LeO.refl | apply LeO.none | apply LeO.ite | refine LeO.bind ?_ (fun _ => ?_)) | apply ih0 | exact LeO.none _ | refine LeO.ite ?_ ?_ | refine LeO.bind ?_ (fun _ => ?_)
theorem graftwoodref17_Pick.calls (k : Nat) (A0 : Option Addr) (c0 : Nat) (l0 : List (S55)) (a1 : ByteArray) (r : ByteArray) (w : World) (hr0 : Kd.C k55 w A0 l0.length l0) (hc0 : l0.length ≤ c0) (h : graftwoodref17_Pick.f k l0 a1 = some r) :
  Calls Tryz.prog 19 #[.slice A0 l0.length c0, .string a1] w fun e w' => e = .returned (.string r) ∧ Drawn0 w w' := by
 have HR0 := Aside0.mk hr0
 have HC0 := Aside0.mk hc0
 clear hr0 hc0
 unfold graftwoodref17_Pick.f at h; have H := h; clear h
 have H' := Aside0.mk H
 clear H
 go_enter Tryz.func19, Tryz.ntmps19
 go_wp2
 go_loopg [5] k (fun kq v5 w' => ∃ (aa : Int), v5 = .int .i64 aa ∧ Aside0 (graftwoodref17_Pick.l0 kq l0 a1 aa = some r) ∧ Aside0 (kq ≤ k) ∧ Drawn0 w w')
 case atStart => exact ⟨(0), rfG, H', ⟨Nat.le_refl _⟩, rfD⟩
 case round =>
  clear H'
  obtain ⟨aa, rfl, HA, HK1, ⟨m1, rfl⟩⟩ := hrel
  cases gk with
  | zero => exact absurd HA.out (by simp [graftwoodref17_Pick.l0])
  | succ k1 =>
   have H := HA.out
   clear HA
   simp only [graftwoodref17_Pick.l0] at H
   replace H := ifP H; rcases H with ⟨c3, H⟩ | ⟨c3, H⟩
   ·have af := decide_eq_true c3
    clear c3
    replace H := ifN H; obtain ⟨c4, H⟩ := H
    have ai := decide_eq_true c4
    clear c4
    replace H := ifP H; rcases H with ⟨c5, H⟩ | ⟨c5, H⟩
    ·have ag := beq_iff_eq.mpr c5
     have ah := bne_eq_false_iff_eq.mpr c5
     clear c5
     obtain rfl := smI H
     have p458 : 0 ≤ (aa : Int) := of_decide_eq_true rfA
     have q458 : aa < (l0.length : Int) := of_decide_eq_true rfA
     obtain ⟨ad458, e458, ab, ac⟩ := at_T55 HR0.out aa p458 q458
     cases e458
     replace p458 := eq_true p458
     replace q458 := eq_true q458
     have p459 : 0 ≤ (aa : Int) := of_decide_eq_true rfA
     have q459 : aa < (l0.length : Int) := of_decide_eq_true rfA
     obtain ⟨ad459, e459, ad, ae⟩ := at_T55 HR0.out aa p459 q459
     obtain rfl : ad458 = ad459 := (by injection e459)
     replace p459 := eq_true p459
     replace q459 := eq_true q459
     go_wp2
     go_ret
     exact ⟨rfG, rfD⟩
    ·have ag := beq_eq_false_iff_ne.mpr c5
     have ah := bne_iff_ne.mpr c5
     have H' := Aside0.mk H
     clear H
     have p458 : 0 ≤ (aa : Int) := of_decide_eq_true rfA
     have q458 : aa < (l0.length : Int) := of_decide_eq_true rfA
     obtain ⟨ad458, e458, ab, ac⟩ := at_T55 HR0.out aa p458 q458
     cases e458
     replace p458 := eq_true p458
     replace q458 := eq_true q458
     go_wp2
     go_roundg k1
     case measure => have := HK1.out; omega
     case rel => exact ⟨(wrap64 (aa + 1)), rfG, H', ⟨by have := HK1.out; omega⟩, rfD⟩
   ·have af := decide_eq_false c3
    clear c3
    obtain rfl := smI H
    go_wp2
    go_ret
    exact ⟨rfG, rfD⟩

end Go.Proofs.YtknmfmedklfepaaGreatDoor.P
