-- half the indentation
import Derived.Test.YtknmfmedklfepaaGreatDoorSqz
import Derived.Test.YtknmfmedklfepaaGreatDoorP0
import Derived.Test.YtknmfmedklfepaaGreatDoorP25
namespace Go.Proofs.YtknmfmedklfepaaGreatDoor.P
open Go.RowKit Go.Proofs.YtknmfmedklfepaaGreatDoorW.PrintWords Go.Proofs.YtknmfmedklfepaaGreatDoorW.PrintLast Go.Proofs.YtknmfmedklfepaaGreatDoorW.PrintMore
attribute [local go_sem] max2_int min2_int max_two min_two max_three min_three max_four min_four
set_option linter.unusedVariables false
set_option linter.unusedSimpArgs false
set_option maxHeartbeats 8000000
set_option maxRecDepth 100000

/-! ### graftwoodref03_Word: function 97 -/
def graftwoodref03_Word.l0 : Nat → ByteArray → Bool → Int → Option (Bool)
 | 0, _, _, _ => none
 | k + 1, x0, x3, x4 => if x4 < (x0.size : Int) then (if 0 ≤ x4 then ((graftwoodref01_Class.f k (bt x0 x4)).bind fun ab => (if ab = 1 then (graftwoodref03_Word.l0 k x0 x3 (wrap64 (x4 + 1))) else (if ab = 2 then (graftwoodref03_Word.l0 k x0 false (wrap64 (x4 + 1))) else (if (bt x0 x4) = 45 then (graftwoodref03_Word.l0 k x0 false (wrap64 (x4 + 1))) else (some false))))) else (none)) else (if (x0.size : Int) > 0 then (if x3 = true then ((graftwoodref02_May.f k x0).bind fun ac => (some ac)) else (some true)) else (some false))
def graftwoodref03_Word.f (k : Nat) (a0 : ByteArray) : Option (Bool) := graftwoodref03_Word.l0 k a0 true 0
theorem graftwoodref03_Word.mono_l : ∀ k, (∀ y0 y1 y2, LeO (graftwoodref03_Word.l0 k y0 y1 y2) (graftwoodref03_Word.l0 (k + 1) y0 y1 y2))
 | 0 => fun _ _ _ r h => by simp [graftwoodref03_Word.l0] at h
 | k + 1 => by
  have ih0 := graftwoodref03_Word.mono_l k
  ·intro y0 y1 y2
   unfold graftwoodref03_Word.l0
   repeat' first | (with_reducible first | apply ih0 | apply graftwoodref01_Class.mono | apply graftwoodref02_May.mono | apply LeO.refl | apply LeO.none | apply LeO.ite | refine LeO.bind ?_ (fun _ => ?_)) | apply ih0 | apply graftwoodref01_Class.mono | apply graftwoodref02_May.mono | exact LeO.none _ | refine LeO.ite ?_ ?_ | refine LeO.bind ?_ (fun _ => ?_)
theorem graftwoodref03_Word.mono : ∀ a0 k, LeO (graftwoodref03_Word.f k a0) (graftwoodref03_Word.f (k + 1) a0) := by
 intro a0 k
 have ih0 := graftwoodref03_Word.mono_l k
 unfold graftwoodref03_Word.f
 repeat' first | (with_reducible first | apply ih0 | apply graftwoodref01_Class.mono | apply graftwoodref02_May.mono | apply LeO.refl | apply LeO.none | apply LeO.ite | refine LeO.bind ?_ (fun _ => ?_)) | apply ih0 | apply graftwoodref01_Class.mono | apply graftwoodref02_May.mono | exact LeO.none _ | refine LeO.ite ?_ ?_ | refine LeO.bind ?_ (fun _ => ?_)
theorem graftwoodref03_Word.calls (k : Nat) (a0 : ByteArray) (r : Bool) (w : World) (h : graftwoodref03_Word.f k a0 = some r) :
  Calls Tryz.prog 97 #[.string a0] w fun e w' => e = .returned (.bool r) ∧ Drawn0 w w' := by
 unfold graftwoodref03_Word.f at h; have H := h; clear h
 have H' := Aside0.mk H
 clear H
 go_enter Tryz.func97, Tryz.ntmps97
 go_wp2
 go_loopg [3, 4] k (fun kq v3 v4 w' => ∃ (ad : Bool) (aa : Int), v3 = .bool ad ∧ v4 = .int .i64 aa ∧ Aside0 (graftwoodref03_Word.l0 kq a0 ad aa = some r) ∧ Aside0 (kq ≤ k) ∧ Drawn0 w w')
 case atStart => exact ⟨(true), (0), rfG, rfG, H', ⟨Nat.le_refl _⟩, rfD⟩
 case round =>
  clear H'
  obtain ⟨ad, aa, rfl, rfl, HA, HK1, ⟨m1, rfl⟩⟩ := hrel
  cases gk with
  | zero => exact absurd HA.out (by simp [graftwoodref03_Word.l0])
  | succ k1 =>
   have H := HA.out
   clear HA
   simp only [graftwoodref03_Word.l0] at H
   replace H := ifP H; rcases H with ⟨c2, H⟩ | ⟨c2, H⟩
   ·have ah := decide_eq_true c2
    clear c2
    replace H := ifN H; obtain ⟨c3, H⟩ := H
    have ap := decide_eq_true c3
    clear c3
    replace H := bnd H; obtain ⟨ab, A5, H⟩ := H
    replace H := ifP H; rcases H with ⟨c6, H⟩ | ⟨c6, H⟩
    ·have ai := beq_iff_eq.mpr c6
     have aj := bne_eq_false_iff_eq.mpr c6
     clear c6
     have H' := Aside0.mk H
     clear H
     have p4 : 0 ≤ (aa : Int) := of_decide_eq_true rfA
     have q4 : aa < (a0.size : Int) := of_decide_eq_true rfA
     have hx4 := bt_at a0 aa
     replace p4 := eq_true p4
     replace q4 := eq_true q4
     go_wp2_with (first | ((with_reducible refine gtC 64 ?_); refine xCz 15 Tryz.func64 (graftwoodref01_Class.calls k1 (bt a0 aa) ab _ A5.out) fun nd => ?_))
     go_roundg k1
     case measure => have := HK1.out; omega
     case rel => exact ⟨(ad), (wrap64 (aa + 1)), rfG, rfG, H', ⟨by have := HK1.out; omega⟩, rfD⟩
    ·have ai := beq_eq_false_iff_ne.mpr c6
     have aj := bne_iff_ne.mpr c6
     replace H := ifP H; rcases H with ⟨c7, H⟩ | ⟨c7, H⟩
     ·have ak := beq_iff_eq.mpr c7
      have al := bne_eq_false_iff_eq.mpr c7
      clear c7
      have H' := Aside0.mk H
      clear H
      have p4 : 0 ≤ (aa : Int) := of_decide_eq_true rfA
      have q4 : aa < (a0.size : Int) := of_decide_eq_true rfA
      have hx4 := bt_at a0 aa
      replace p4 := eq_true p4
      replace q4 := eq_true q4
      go_wp2_with (first | ((with_reducible refine gtC 64 ?_); refine xCz 15 Tryz.func64 (graftwoodref01_Class.calls k1 (bt a0 aa) ab _ A5.out) fun nd => ?_))
      go_roundg k1
      case measure => have := HK1.out; omega
      case rel => exact ⟨(false), (wrap64 (aa + 1)), rfG, rfG, H', ⟨by have := HK1.out; omega⟩, rfD⟩
     ·have ak := beq_eq_false_iff_ne.mpr c7
      have al := bne_iff_ne.mpr c7
      replace H := ifP H; rcases H with ⟨c9, H⟩ | ⟨c9, H⟩
      ·have an := beq_iff_eq.mpr c9
       have ao := bne_eq_false_iff_eq.mpr c9
       clear c9
       have H' := Aside0.mk H
       clear H
       have p4 : 0 ≤ (aa : Int) := of_decide_eq_true rfA
       have q4 : aa < (a0.size : Int) := of_decide_eq_true rfA
       have hx4 := bt_at a0 aa
       replace p4 := eq_true p4
       replace q4 := eq_true q4
       go_wp2_with (first | ((with_reducible refine gtC 64 ?_); refine xCz 15 Tryz.func64 (graftwoodref01_Class.calls k1 (bt a0 aa) ab _ A5.out) fun nd => ?_; have p8 : 0 ≤ (aa : Int) := of_decide_eq_true rfA; have q8 : aa < (a0.size : Int) := of_decide_eq_true rfA; have hx8 := bt_at a0 aa; replace p8 := eq_true p8; replace q8 := eq_true q8))
       go_roundg k1
       case measure => have := HK1.out; omega
       case rel => exact ⟨(false), (wrap64 (aa + 1)), rfG, rfG, H', ⟨by have := HK1.out; omega⟩, rfD⟩
      ·have an := beq_eq_false_iff_ne.mpr c9
       have ao := bne_iff_ne.mpr c9
       obtain rfl := smI H
       have p4 : 0 ≤ (aa : Int) := of_decide_eq_true rfA
       have q4 : aa < (a0.size : Int) := of_decide_eq_true rfA
       have hx4 := bt_at a0 aa
       replace p4 := eq_true p4
       replace q4 := eq_true q4
       go_wp2_with (first | ((with_reducible refine gtC 64 ?_); refine xCz 15 Tryz.func64 (graftwoodref01_Class.calls k1 (bt a0 aa) ab _ A5.out) fun nd => ?_; have p8 : 0 ≤ (aa : Int) := of_decide_eq_true rfA; have q8 : aa < (a0.size : Int) := of_decide_eq_true rfA; have hx8 := bt_at a0 aa; replace p8 := eq_true p8; replace q8 := eq_true q8))
       go_ret
       exact ⟨rfG, rfD⟩
   ·have ah := decide_eq_false c2
    clear c2
    replace H := ifP H; rcases H with ⟨c10, H⟩ | ⟨c10, H⟩
    ·have ae : decide (0 < (a0.size : Int)) = true := decide_eq_true c10
     have af : decide (0 < a0.size) = true := decide_eq_true (by omega)
     clear c10
     replace H := ifB H; rcases H with ⟨rfl, H⟩ | ⟨rfl, H⟩
     ·replace H := bnd H; obtain ⟨ac, A12, H⟩ := H
      obtain rfl := smI H
      go_wp2_with (first | (go_at_call 96; (with_reducible refine (graftwoodref02_May.calls k1 a0 ac _ A12.out).mono ?_); rintro e w' ⟨rfl, ⟨nd, rfl⟩⟩))
      go_ret
      exact ⟨rfG, rfD⟩
     ·obtain rfl := smI H
      go_wp2
      go_ret
      exact ⟨rfG, rfD⟩
    ·have ae : decide (0 < (a0.size : Int)) = false := decide_eq_false c10
     have af : decide (0 < a0.size) = false := decide_eq_false (by omega)
     clear c10
     obtain rfl := smI H
     go_wp2
     go_ret
     exact ⟨rfG, rfD⟩

end Go.Proofs.YtknmfmedklfepaaGreatDoor.P
