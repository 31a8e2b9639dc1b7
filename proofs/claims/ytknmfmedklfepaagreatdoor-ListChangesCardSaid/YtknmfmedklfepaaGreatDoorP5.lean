-- half the indentation
import Derived.Test.YtknmfmedklfepaaGreatDoorSqz
import Derived.Test.YtknmfmedklfepaaGreatDoorP0
namespace Go.Proofs.YtknmfmedklfepaaGreatDoor.P
open Go.RowKit Go.Proofs.YtknmfmedklfepaaGreatDoorW.PrintWords Go.Proofs.YtknmfmedklfepaaGreatDoorW.PrintLast Go.Proofs.YtknmfmedklfepaaGreatDoorW.PrintMore
attribute [local go_sem] max2_int min2_int max_two min_two max_three min_three max_four min_four
set_option linter.unusedVariables false
set_option linter.unusedSimpArgs false
set_option maxHeartbeats 8000000
set_option maxRecDepth 100000

/-! ### graftwoodref01_Parts: function 38 -/
def graftwoodref01_Parts.l0 : Nat → ByteArray → Int → List ByteArray → Int → Int → Option (List ByteArray)
 | 0, _, _, _, _, _ => none
 | k + 1, x0, x1, x5, x6, x7 => if x7 < (x0.size : Int) then (if 0 ≤ x7 then (if (bt x0 x7) = x1 then (if 0 ≤ x6 then (if x6 ≤ x7 then (if x7 ≤ (x0.size : Int) then (if x5.length < 8796093022208 then (graftwoodref01_Parts.l0 k x0 x1 (x5 ++ [x0.extract (x6 : Int).toNat (x7 : Int).toNat]) (wrap64 (x7 + 1)) (wrap64 (x7 + 1))) else (none)) else (none)) else (none)) else (none)) else (graftwoodref01_Parts.l0 k x0 x1 x5 x6 (wrap64 (x7 + 1)))) else (none)) else (if 0 ≤ x6 then (if x6 ≤ (x0.size : Int) then (if x5.length < 8796093022208 then (some (x5 ++ [x0.extract (x6 : Int).toNat x0.size])) else (none)) else (none)) else (none))
def graftwoodref01_Parts.f (k : Nat) (a0 : ByteArray) (a1 : Int) : Option (List ByteArray) := graftwoodref01_Parts.l0 k a0 a1 ([] : List ByteArray) 0 0
theorem graftwoodref01_Parts.mono_l : ∀ k, (∀ y0 y1 y2 y3 y4, LeO (graftwoodref01_Parts.l0 k y0 y1 y2 y3 y4) (graftwoodref01_Parts.l0 (k + 1) y0 y1 y2 y3 y4))
 | 0 => fun _ _ _ _ _ r h => by simp [graftwoodref01_Parts.l0] at h
 | k + 1 => by
  have ih0 := graftwoodref01_Parts.mono_l k
  ·intro y0 y1 y2 y3 y4
   unfold graftwoodref01_Parts.l0
   repeat' first | (with_reducible first | apply ih0 | apply LeO.refl | apply LeO.none | apply LeO.ite | refine LeO.bind ?_ (fun _ => ?_)) | apply ih0 | exact LeO.none _ | refine LeO.ite ?_ ?_ | refine LeO.bind ?_ (fun _ => ?_)
theorem graftwoodref01_Parts.mono : ∀ a0 a1 k, LeO (graftwoodref01_Parts.f k a0 a1) (graftwoodref01_Parts.f (k + 1) a0 a1) := by
 intro a0 a1 k
 have ih0 := graftwoodref01_Parts.mono_l k
 unfold graftwoodref01_Parts.f
 repeat' first | (with_reducible first | apply ih0 | apply LeO.refl | apply LeO.none | apply LeO.ite | refine LeO.bind ?_ (fun _ => ?_)) | apply ih0 | exact LeO.none _ | refine LeO.ite ?_ ?_ | refine LeO.bind ?_ (fun _ => ?_)
theorem graftwoodref01_Parts.calls (k : Nat) (a0 : ByteArray) (a1 : Int) (r : List ByteArray) (w : World) (h : graftwoodref01_Parts.f k a0 a1 = some r) :
  Calls Tryz.prog 38 #[.string a0, .int .u8 a1] w fun e w' => ∃ v0_ : Value, e = .returned (v0_) ∧ Kd.R Kd.string 9 w' w.heap.size (fun _ => True) v0_ r ∧ Below w.heap.size w w' := by
 have HB := am (Below.refl w.heap.size w)
 unfold graftwoodref01_Parts.f at h; have H := h; clear h
 have H' := Aside0.mk H
 clear H
 go_enter Tryz.func38, Tryz.ntmps38
 go_wp2
 go_loopg [5, 6, 7] k (fun kq v5 v6 v7 w' => ∃ (ak : List ByteArray) (ag : Int) (aa : Int), v6 = .int .i64 ag ∧ v7 = .int .i64 aa ∧ Aside0 (graftwoodref01_Parts.l0 kq a0 a1 ak ag aa = some r) ∧ Aside0 (kq ≤ k) ∧ Aside0 (Kd.R Kd.string 9 w' w.heap.size (fun _ => True) v5 ak) ∧ Aside0 (Below w.heap.size w w'))
 case atStart => exact ⟨(([] : List ByteArray)), (0), (0), rfG, rfG, H', ⟨Nat.le_refl _⟩, ⟨rfM⟩, ⟨eTx HB.out⟩⟩
 case round =>
  clear H'
  obtain ⟨ak, ag, aa, rfl, rfl, HA, HK1, aH, HB⟩ := hrel
  cases gk with
  | zero => exact absurd HA.out (by simp [graftwoodref01_Parts.l0])
  | succ k1 =>
   have H := HA.out
   clear HA
   simp only [graftwoodref01_Parts.l0] at H
   replace H := ifP H; rcases H with ⟨c3, H⟩ | ⟨c3, H⟩
   ·have ac := decide_eq_true c3
    clear c3
    replace H := ifN H; obtain ⟨c4, H⟩ := H
    have aI := decide_eq_true c4
    clear c4
    replace H := ifP H; rcases H with ⟨c6, H⟩ | ⟨c6, H⟩
    ·have ah := beq_iff_eq.mpr c6
     have aJ := bne_eq_false_iff_eq.mpr c6
     clear c6
     replace H := ifN H; obtain ⟨c7, H⟩ := H
     have ax := eq_true c7
     have a3 := decide_eq_true c7
     clear c7
     replace H := ifN H; obtain ⟨c8, H⟩ := H
     have al := eq_true c8
     have a4 := decide_eq_true c8
     clear c8
     replace H := ifN H; obtain ⟨c9, H⟩ := H
     have ao := eq_true c9
     have bo := decide_eq_true c9
     clear c9
     replace H := ifN H; obtain ⟨c10, H⟩ := H
     have LMc10 := Aside0.mk c10
     clear c10
     obtain ⟨a5, ar⟩ : ∃ y_ : List ByteArray, y_ = (ak ++ [a0.extract (ag : Int).toNat (aa : Int).toNat]) := ⟨_, rfl⟩
     replace H : (graftwoodref01_Parts.l0 k1 a0 a1 a5 (wrap64 (aa + 1)) (wrap64 (aa + 1))) = some r := by first | (rw [ar]; with_reducible exact H) | (have H2_ := (Option.bind_some _ _).symm.trans H; rw [ar]; with_reducible exact H2_) | (have H2_ := (Option.bind_some _ _).symm.trans H; with_reducible exact H2_) | with_reducible exact H | (rw [ar]; exact H) | exact H
     have Ny111 := Aside0.mk ar
     clear ar
     have H' := Aside0.mk H
     clear H
     have p5 : 0 ≤ (aa : Int) := of_decide_eq_true rfA
     have q5 : aa < (a0.size : Int) := of_decide_eq_true rfA
     have hx5 := bt_at a0 aa
     replace p5 := eq_true p5
     replace q5 := eq_true q5
     go_wp2_with (first | ((with_reducible refine gate_builtin (b := .append) (xs := #[.tmp 19, .tmp 24]) rfl ?_); at_builtin; refine Kd.R_append Kd.string (w0 := w) w.heap.size rfl (.tmp 19) (.tmp 24) 61 9 (.string ⟨#[]⟩) 16 rfl Tryz.underlying61 info9 rfl (by decide) (by omega) u5 ak (a0.extract (ag : Int).toNat (aa : Int).toNat) [.string (a0.extract (ag : Int).toNat (aa : Int).toNat)] (fun _ => True) (fun _ => False) rfl rfl ?aP (fun _ hk => hk.elim) ?aF ?aO ?aB ?aS ?aL ?_; (case aP => exact rfl); (case aB => exact (eTx HB.out)); (case aF => exact (fun _ _ => trivial)); (case aO => exact (rT aH.out)); (case aS => exact (below_size (eTx HB.out))); (case aL => have := LMc10.out; omega); intro bu w11 ho hb hg hat; rw [← Ny111.out] at ho; replace HB := am (hb); have a6 := am (ho); clear aH ho hb hg hat))
     go_roundg k1
     case measure => have := HK1.out; omega
     case rel => exact ⟨(a5), (wrap64 (aa + 1)), (wrap64 (aa + 1)), rfG, rfG, H', ⟨by have := HK1.out; omega⟩, ⟨rT a6.out⟩, ⟨eTx HB.out⟩⟩
    ·have ah := beq_eq_false_iff_ne.mpr c6
     have aJ := bne_iff_ne.mpr c6
     have H' := Aside0.mk H
     clear H
     have p5 : 0 ≤ (aa : Int) := of_decide_eq_true rfA
     have q5 : aa < (a0.size : Int) := of_decide_eq_true rfA
     have hx5 := bt_at a0 aa
     replace p5 := eq_true p5
     replace q5 := eq_true q5
     go_wp2
     go_roundg k1
     case measure => have := HK1.out; omega
     case rel => exact ⟨(ak), (ag), (wrap64 (aa + 1)), rfG, rfG, H', ⟨by have := HK1.out; omega⟩, ⟨rT aH.out⟩, ⟨eTx HB.out⟩⟩
   ·have ac := decide_eq_false c3
    clear c3
    replace H := ifP H; rcases H with ⟨c12, H⟩ | ⟨c12, H⟩
    ·have ai := eq_true c12
     have ay := decide_eq_true c12
     clear c12
     replace H := ifN H; obtain ⟨c13, H⟩ := H
     have au := eq_true c13
     have az := decide_eq_true c13
     clear c13
     replace H := ifN H; obtain ⟨c14, H⟩ := H
     have LMc14 := Aside0.mk c14
     clear c14
     obtain ⟨bp, av⟩ : ∃ y_ : List ByteArray, y_ = (ak ++ [a0.extract (ag : Int).toNat a0.size]) := ⟨_, rfl⟩
     replace H : (some bp) = some r := by first | (rw [av]; with_reducible exact H) | (have H2_ := (Option.bind_some _ _).symm.trans H; rw [av]; with_reducible exact H2_) | (have H2_ := (Option.bind_some _ _).symm.trans H; with_reducible exact H2_) | with_reducible exact H | (rw [av]; exact H) | exact H
     have Ny114 := Aside0.mk av
     clear av
     obtain rfl := smI H
     go_wp2_with (first | ((with_reducible refine gate_builtin (b := .append) (xs := #[.tmp 28, .tmp 32]) rfl ?_); at_builtin; refine Kd.R_append Kd.string (w0 := w) w.heap.size rfl (.tmp 28) (.tmp 32) 61 9 (.string ⟨#[]⟩) 16 rfl Tryz.underlying61 info9 rfl (by decide) (by omega) u5 ak (a0.extract (ag : Int).toNat a0.size) [.string (a0.extract (ag : Int).toNat a0.size)] (fun _ => True) (fun _ => False) rfl rfl ?aP (fun _ hk => hk.elim) ?aF ?aO ?aB ?aS ?aL ?_; (case aP => exact rfl); (case aB => exact (eTx HB.out)); (case aF => exact (fun _ _ => trivial)); (case aO => exact (rT aH.out)); (case aS => exact (below_size (eTx HB.out))); (case aL => have := LMc14.out; omega); intro bv w15 ho hb hg hat; rw [← Ny114.out] at ho; replace HB := am (hb); have a7 := am (ho); clear aH ho hb hg hat))
     go_ret
     exact ⟨_, rfF, by (with_reducible repeat (first | apply Kd.R_alloc | apply Kd.R_drewN | apply Kd.R_drew)); exact a7.out, eTx HB.out⟩
    ·exact absurd H (by simp)

/-! ### graftwoodref01_Class: function 64 -/
mutual
def graftwoodref01_Class.j0 : Nat → Int → Bool → Option (Int)
 | 0, _, _ => none
 | k + 1, x3, x11 => if x11 = true then (some 1) else (if x3 ≥ 65 then (if x3 ≤ 90 then (graftwoodref01_Class.j1 k x3 true) else (if x3 ≥ 97 then (graftwoodref01_Class.j1 k x3 (decide (x3 ≤ 122))) else (graftwoodref01_Class.j1 k x3 false))) else (if x3 ≥ 97 then (graftwoodref01_Class.j1 k x3 (decide (x3 ≤ 122))) else (graftwoodref01_Class.j1 k x3 false)))
def graftwoodref01_Class.j1 : Nat → Int → Bool → Option (Int)
 | 0, _, _ => none
 | k + 1, x3, x25 => if x25 = true then (some 2) else (if x3 = 45 then (graftwoodref01_Class.j2 k x3 true) else (if x3 = 46 then (graftwoodref01_Class.j2 k x3 true) else (if x3 = 95 then (graftwoodref01_Class.j2 k x3 true) else (graftwoodref01_Class.j2 k x3 (x3 == 126)))))
def graftwoodref01_Class.j2 : Nat → Int → Bool → Option (Int)
 | 0, _, _ => none
 | k + 1, x3, x39 => if x39 = true then (some 3) else (if x3 = 47 then (some 4) else (if x3 = 32 then (graftwoodref01_Class.j3 k x3 (x3 == 32)) else (graftwoodref01_Class.j3 k x3 (x3 == 9))))
def graftwoodref01_Class.j3 : Nat → Int → Bool → Option (Int)
 | 0, _, _ => none
 | k + 1, x40, x43 => if x43 = true then (some 5) else (if x40 = 10 then (some 6) else (if x40 = 34 then (some 7) else (if x40 = 40 then (some 8) else (if x40 = 41 then (some 9) else (some 0)))))
end
def graftwoodref01_Class.f (k : Nat) (a0 : Int) : Option (Int) := if (wrap64 (a0)) ≥ 48 then (graftwoodref01_Class.j0 k (wrap64 (a0)) (decide ((wrap64 (a0)) ≤ 57))) else (graftwoodref01_Class.j0 k (wrap64 (a0)) false)
theorem graftwoodref01_Class.mono_l : ∀ k, (∀ y0 y1, LeO (graftwoodref01_Class.j0 k y0 y1) (graftwoodref01_Class.j0 (k + 1) y0 y1)) ∧ (∀ y0 y1, LeO (graftwoodref01_Class.j1 k y0 y1) (graftwoodref01_Class.j1 (k + 1) y0 y1)) ∧ (∀ y0 y1, LeO (graftwoodref01_Class.j2 k y0 y1) (graftwoodref01_Class.j2 (k + 1) y0 y1)) ∧ (∀ y0 y1, LeO (graftwoodref01_Class.j3 k y0 y1) (graftwoodref01_Class.j3 (k + 1) y0 y1))
 | 0 => ⟨fun _ _ r h => by simp [graftwoodref01_Class.j0] at h, fun _ _ r h => by simp [graftwoodref01_Class.j1] at h, fun _ _ r h => by simp [graftwoodref01_Class.j2] at h, fun _ _ r h => by simp [graftwoodref01_Class.j3] at h⟩
 | k + 1 => by
  obtain ⟨ih0, ih1, ih2, ih3⟩ := graftwoodref01_Class.mono_l k
  refine ⟨?_, ?_, ?_, ?_⟩
  ·intro y0 y1
   unfold graftwoodref01_Class.j0
   repeat' first | (with_reducible first | apply ih0 | apply ih1 | apply ih2 | apply ih3 | apply LeO.refl | apply LeO.none | apply LeO.ite | refine LeO.bind ?_ (fun _ => ?_)) | apply ih0 | apply ih1 | apply ih2 | apply ih3 | exact LeO.none _ | refine LeO.ite ?_ ?_ | refine LeO.bind ?_ (fun _ => ?_)
  ·intro y0 y1
   unfold graftwoodref01_Class.j1
   repeat' first | (with_reducible first | apply ih0 | apply ih1 | apply ih2 | apply ih3 | apply LeO.refl | apply LeO.none | apply LeO.ite | refine LeO.bind ?_ (fun _ => ?_)) | apply ih0 | apply ih1 | apply ih2 | apply ih3 | exact LeO.none _ | refine LeO.ite ?_ ?_ | refine LeO.bind ?_ (fun _ => ?_)
  ·intro y0 y1
   unfold graftwoodref01_Class.j2
   repeat' first | (with_reducible first | apply ih0 | apply ih1 | apply ih2 | apply ih3 | apply LeO.refl | apply LeO.none | apply LeO.ite | refine LeO.bind ?_ (fun _ => ?_)) | apply ih0 | apply ih1 | apply ih2 | apply ih3 | exact LeO.none _ | refine LeO.ite ?_ ?_ | refine LeO.bind ?_ (fun _ => ?_)
  ·intro y0 y1
   unfold graftwoodref01_Class.j3
   repeat' first | (with_reducible first | apply ih0 | apply ih1 | apply ih2 | apply ih3 | apply LeO.refl | apply LeO.none | apply LeO.ite | refine LeO.bind ?_ (fun _ => ?_)) | apply ih0 | apply ih1 | apply ih2 | apply ih3 | exact LeO.none _ | refine LeO.ite ?_ ?_ | refine LeO.bind ?_ (fun _ => ?_)
theorem graftwoodref01_Class.mono : ∀ a0 k, LeO (graftwoodref01_Class.f k a0) (graftwoodref01_Class.f (k + 1) a0) := by
 intro a0 k
 obtain ⟨ih0, ih1, ih2, ih3⟩ := graftwoodref01_Class.mono_l k
 unfold graftwoodref01_Class.f
 repeat' first | (with_reducible first | apply ih0 | apply ih1 | apply ih2 | apply ih3 | apply LeO.refl | apply LeO.none | apply LeO.ite | refine LeO.bind ?_ (fun _ => ?_)) | apply ih0 | apply ih1 | apply ih2 | apply ih3 | exact LeO.none _ | refine LeO.ite ?_ ?_ | refine LeO.bind ?_ (fun _ => ?_)
theorem graftwoodref01_Class.calls (k : Nat) (a0 : Int) (r : Int) (w : World) (h : graftwoodref01_Class.f k a0 = some r) :
  Calls Tryz.prog 64 #[.int .u8 a0] w fun e w' => e = .returned (.int .i64 r) ∧ Drawn0 w w' := by
 unfold graftwoodref01_Class.f at h; have H := h; clear h
 have HC2 := Aside0.mk H
 clear H
 go_enter Tryz.func64, Tryz.ntmps64
 go_upto_region 2 with (fail)
 go_cut [11] (fun v11 wc => ∃ (kq : Nat) (aA : Bool), v11 = .bool aA ∧ Aside0 (graftwoodref01_Class.j0 kq (wrap64 (a0)) aA = some r) ∧ Aside0 (kq ≤ k) ∧ Drawn0 w wc)
 case first =>
  have H := HC2.out
  clear HC2
  replace H := ifP H; rcases H with ⟨c3, H⟩ | ⟨c3, H⟩
  ·have ac : decide (48 ≤ (wrap64 (a0))) = true := decide_eq_true c3
   clear c3
   (first | rw [ac] | (simp only [i64_w, i32_w]; rw [ac]) | skip)
   have H' := Aside0.mk H
   clear H
   go_wp2
   go_meet
   case rel => exact ⟨_, (decide ((wrap64 (a0)) ≤ 57)), rfG, H', ⟨rfO⟩, rfD⟩
  ·have ac : decide (48 ≤ (wrap64 (a0))) = false := decide_eq_false c3
   clear c3
   (first | rw [ac] | (simp only [i64_w, i32_w]; rw [ac]) | skip)
   have H' := Aside0.mk H
   clear H
   go_wp2
   go_meet
   case rel => exact ⟨_, (false), rfG, H', ⟨rfO⟩, rfD⟩
 case rest =>
  clear HC2
  obtain ⟨kq, aA, rfl, HA, HJ1, ⟨mc1, rfl⟩⟩ := hcut
  cases kq with
  | zero => exact absurd HA.out (by simp [graftwoodref01_Class.j0])
  | succ kj1 =>
   have H := HA.out
   clear HA
   simp only [graftwoodref01_Class.j0] at H
   replace H := ifB H; rcases H with ⟨rfl, H⟩ | ⟨rfl, H⟩
   ·obtain rfl := smI H
    go_wp2
    go_ret
    exact ⟨rfG, rfD⟩
   ·have HC5 := Aside0.mk H
    clear H
    go_upto_region 4 with (fail)
    go_cut [25] (fun v25 wc => ∃ (kq : Nat) (aC : Bool), v25 = .bool aC ∧ Aside0 (graftwoodref01_Class.j1 kq (wrap64 (a0)) aC = some r) ∧ Aside0 (kq ≤ kj1) ∧ Drawn0 w wc)
    case first =>
     have H := HC5.out
     clear HC5
     replace H := ifP H; rcases H with ⟨c6, H⟩ | ⟨c6, H⟩
     ·have ah : decide (65 ≤ (wrap64 (a0))) = true := decide_eq_true c6
      clear c6
      (first | rw [ah] | (simp only [i64_w, i32_w]; rw [ah]) | skip)
      replace H := ifP H; rcases H with ⟨c7, H⟩ | ⟨c7, H⟩
      ·have ax := decide_eq_true c7
       clear c7
       have H' := Aside0.mk H
       clear H
       go_wp2
       go_meet
       case rel => exact ⟨_, (true), rfG, H', ⟨by have := HJ1.out; first | omega | exact Nat.le_refl _⟩, rfD⟩
      ·have ax := decide_eq_false c7
       clear c7
       replace H := ifP H; rcases H with ⟨c8, H⟩ | ⟨c8, H⟩
       ·have al : decide (97 ≤ (wrap64 (a0))) = true := decide_eq_true c8
        clear c8
        have H' := Aside0.mk H
        clear H
        go_wp2
        go_meet
        case rel => exact ⟨_, (decide ((wrap64 (a0)) ≤ 122)), rfG, H', ⟨by have := HJ1.out; first | omega | exact Nat.le_refl _⟩, rfD⟩
       ·have al : decide (97 ≤ (wrap64 (a0))) = false := decide_eq_false c8
        clear c8
        have H' := Aside0.mk H
        clear H
        go_wp2
        go_meet
        case rel => exact ⟨_, (false), rfG, H', ⟨by have := HJ1.out; first | omega | exact Nat.le_refl _⟩, rfD⟩
     ·have ah : decide (65 ≤ (wrap64 (a0))) = false := decide_eq_false c6
      clear c6
      (first | rw [ah] | (simp only [i64_w, i32_w]; rw [ah]) | skip)
      replace H := ifP H; rcases H with ⟨c9, H⟩ | ⟨c9, H⟩
      ·have ao : decide (97 ≤ (wrap64 (a0))) = true := decide_eq_true c9
       clear c9
       have H' := Aside0.mk H
       clear H
       go_wp2
       go_meet
       case rel => exact ⟨_, (decide ((wrap64 (a0)) ≤ 122)), rfG, H', ⟨by have := HJ1.out; first | omega | exact Nat.le_refl _⟩, rfD⟩
      ·have ao : decide (97 ≤ (wrap64 (a0))) = false := decide_eq_false c9
       clear c9
       have H' := Aside0.mk H
       clear H
       go_wp2
       go_meet
       case rel => exact ⟨_, (false), rfG, H', ⟨by have := HJ1.out; first | omega | exact Nat.le_refl _⟩, rfD⟩
    case rest =>
     clear HC5
     obtain ⟨kq, aC, rfl, HA, HJ4, ⟨mc4, rfl⟩⟩ := hcut
     cases kq with
     | zero => exact absurd HA.out (by simp [graftwoodref01_Class.j1])
     | succ kj4 =>
      have H := HA.out
      clear HA
      simp only [graftwoodref01_Class.j1] at H
      replace H := ifB H; rcases H with ⟨rfl, H⟩ | ⟨rfl, H⟩
      ·obtain rfl := smI H
       go_wp2
       go_ret
       exact ⟨rfG, rfD⟩
      ·have aW := Aside0.mk H
       clear H
       go_upto_region 6 with (fail)
       go_cut [39] (fun v39 wc => ∃ (kq : Nat) (ap : Bool), v39 = .bool ap ∧ Aside0 (graftwoodref01_Class.j2 kq (wrap64 (a0)) ap = some r) ∧ Aside0 (kq ≤ kj4) ∧ Drawn0 w wc)
       case first =>
        have H := aW.out
        clear aW
        replace H := ifP H; rcases H with ⟨c12, H⟩ | ⟨c12, H⟩
        ·have ai := beq_iff_eq.mpr c12
         have ay := bne_eq_false_iff_eq.mpr c12
         clear c12
         (first | rw [ai] | (simp only [i64_w, i32_w]; rw [ai]) | skip)
         have H' := Aside0.mk H
         clear H
         go_wp2
         go_meet
         case rel => exact ⟨_, (true), rfG, H', ⟨by have := HJ1.out; have := HJ4.out; first | omega | exact Nat.le_refl _⟩, rfD⟩
        ·have ai := beq_eq_false_iff_ne.mpr c12
         have ay := bne_iff_ne.mpr c12
         (first | rw [ai] | (simp only [i64_w, i32_w]; rw [ai]) | skip)
         replace H := ifP H; rcases H with ⟨c13, H⟩ | ⟨c13, H⟩
         ·have au := beq_iff_eq.mpr c13
          have az := bne_eq_false_iff_eq.mpr c13
          clear c13
          have H' := Aside0.mk H
          clear H
          go_wp2
          go_meet
          case rel => exact ⟨_, (true), rfG, H', ⟨by have := HJ1.out; have := HJ4.out; first | omega | exact Nat.le_refl _⟩, rfD⟩
         ·have au := beq_eq_false_iff_ne.mpr c13
          have az := bne_iff_ne.mpr c13
          replace H := ifP H; rcases H with ⟨c14, H⟩ | ⟨c14, H⟩
          ·have aK := beq_iff_eq.mpr c14
           have aM := bne_eq_false_iff_eq.mpr c14
           clear c14
           have H' := Aside0.mk H
           clear H
           go_wp2
           go_meet
           case rel => exact ⟨_, (true), rfG, H', ⟨by have := HJ1.out; have := HJ4.out; first | omega | exact Nat.le_refl _⟩, rfD⟩
          ·have aK := beq_eq_false_iff_ne.mpr c14
           have aM := bne_iff_ne.mpr c14
           have H' := Aside0.mk H
           clear H
           go_wp2
           go_meet
           case rel => exact ⟨_, (((wrap64 (a0)) == 126)), rfG, H', ⟨by have := HJ1.out; have := HJ4.out; first | omega | exact Nat.le_refl _⟩, rfD⟩
       case rest =>
        clear aW
        obtain ⟨kq, ap, rfl, HA, a8, ⟨mc10, rfl⟩⟩ := hcut
        cases kq with
        | zero => exact absurd HA.out (by simp [graftwoodref01_Class.j2])
        | succ kj10 =>
         have H := HA.out
         clear HA
         simp only [graftwoodref01_Class.j2] at H
         replace H := ifB H; rcases H with ⟨rfl, H⟩ | ⟨rfl, H⟩
         ·obtain rfl := smI H
          go_wp2
          go_ret
          exact ⟨rfG, rfD⟩
         ·replace H := ifP H; rcases H with ⟨c16, H⟩ | ⟨c16, H⟩
          ·have aD := beq_iff_eq.mpr c16
           have aU := bne_eq_false_iff_eq.mpr c16
           clear c16
           obtain rfl := smI H
           go_wp2
           go_ret
           exact ⟨rfG, rfD⟩
          ·have aD := beq_eq_false_iff_ne.mpr c16
           have aU := bne_iff_ne.mpr c16
           have aX := Aside0.mk H
           clear H
           go_upto_if 43 with (fail)
           go_cut [43] (fun v43 wc => ∃ (kq : Nat) (aq : Bool), v43 = .bool aq ∧ Aside0 (graftwoodref01_Class.j3 kq (wrap64 (a0)) aq = some r) ∧ Aside0 (kq ≤ kj10) ∧ Drawn0 w wc)
           case first =>
            have H := aX.out
            clear aX
            replace H := ifP H; rcases H with ⟨c18, H⟩ | ⟨c18, H⟩
            ·have an := beq_iff_eq.mpr c18
             have aV := bne_eq_false_iff_eq.mpr c18
             clear c18
             (first | rw [an] | (simp only [i64_w, i32_w]; rw [an]) | skip)
             have H' := Aside0.mk H
             clear H
             go_wp2
             go_meet
             case rel => exact ⟨_, (((wrap64 (a0)) == 32)), rfG, H', ⟨by have := HJ1.out; have := HJ4.out; have := a8.out; first | omega | exact Nat.le_refl _⟩, rfD⟩
            ·have an := beq_eq_false_iff_ne.mpr c18
             have aV := bne_iff_ne.mpr c18
             (first | rw [an] | (simp only [i64_w, i32_w]; rw [an]) | skip)
             have H' := Aside0.mk H
             clear H
             go_wp2
             go_meet
             case rel => exact ⟨_, (((wrap64 (a0)) == 9)), rfG, H', ⟨by have := HJ1.out; have := HJ4.out; have := a8.out; first | omega | exact Nat.le_refl _⟩, rfD⟩
           case rest =>
            clear aX
            obtain ⟨kq, aq, rfl, HA, bw, ⟨mc16, rfl⟩⟩ := hcut
            cases kq with
            | zero => exact absurd HA.out (by simp [graftwoodref01_Class.j3])
            | succ kj16 =>
             have H := HA.out
             clear HA
             simp only [graftwoodref01_Class.j3] at H
             replace H := ifB H; rcases H with ⟨rfl, H⟩ | ⟨rfl, H⟩
             ·obtain rfl := smI H
              go_wp2
              go_ret
              exact ⟨rfG, rfD⟩
             ·replace H := ifP H; rcases H with ⟨c20, H⟩ | ⟨c20, H⟩
              ·have a9 := beq_iff_eq.mpr c20
               have a_ := bne_eq_false_iff_eq.mpr c20
               clear c20
               obtain rfl := smI H
               go_wp2
               go_ret
               exact ⟨rfG, rfD⟩
              ·have a9 := beq_eq_false_iff_ne.mpr c20
               have a_ := bne_iff_ne.mpr c20
               replace H := ifP H; rcases H with ⟨c21, H⟩ | ⟨c21, H⟩
               ·have bb := beq_iff_eq.mpr c21
                have bc := bne_eq_false_iff_eq.mpr c21
                clear c21
                obtain rfl := smI H
                go_wp2
                go_ret
                exact ⟨rfG, rfD⟩
               ·have bb := beq_eq_false_iff_ne.mpr c21
                have bc := bne_iff_ne.mpr c21
                replace H := ifP H; rcases H with ⟨c22, H⟩ | ⟨c22, H⟩
                ·have be := beq_iff_eq.mpr c22
                 have bf := bne_eq_false_iff_eq.mpr c22
                 clear c22
                 obtain rfl := smI H
                 go_wp2
                 go_ret
                 exact ⟨rfG, rfD⟩
                ·have be := beq_eq_false_iff_ne.mpr c22
                 have bf := bne_iff_ne.mpr c22
                 replace H := ifP H; rcases H with ⟨c23, H⟩ | ⟨c23, H⟩
                 ·have bg := beq_iff_eq.mpr c23
                  have bh := bne_eq_false_iff_eq.mpr c23
                  clear c23
                  obtain rfl := smI H
                  go_wp2
                  go_ret
                  exact ⟨rfG, rfD⟩
                 ·have bg := beq_eq_false_iff_ne.mpr c23
                  have bh := bne_iff_ne.mpr c23
                  obtain rfl := smI H
                  go_wp2
                  go_ret
                  exact ⟨rfG, rfD⟩

/-! ### graftwoodref04_Element: function 39 -/
mutual
def graftwoodref04_Element.j0 : Nat → ByteArray → Bool → Option (Bool)
 | 0, _, _ => none
 | k + 1, x0, x20 => if x20 = true then (some false) else (graftwoodref04_Element.l0 k x0 0)
def graftwoodref04_Element.l0 : Nat → ByteArray → Int → Option (Bool)
 | 0, _, _ => none
 | k + 1, x0, x3 => if x3 < (x0.size : Int) then (if 0 ≤ x3 then ((graftwoodref01_Class.f k (bt x0 x3)).bind fun aj => (if aj < 1 then (some false) else (if aj > 3 then (some false) else (graftwoodref04_Element.l0 k x0 (wrap64 (x3 + 1)))))) else (none)) else (some true)
end
def graftwoodref04_Element.f (k : Nat) (a0 : ByteArray) : Option (Bool) := if (a0.size : Int) = 0 then (graftwoodref04_Element.j0 k a0 true) else (if 0 < (a0.size : Int) then (if (bt a0 0) = 46 then (graftwoodref04_Element.j0 k a0 true) else (if 0 ≤ (wrap64 ((a0.size : Int) - 1)) then (if (wrap64 ((a0.size : Int) - 1)) < (a0.size : Int) then (graftwoodref04_Element.j0 k a0 ((bt a0 (wrap64 ((a0.size : Int) - 1))) == 46)) else (none)) else (none))) else (none))
theorem graftwoodref04_Element.mono_l : ∀ k, (∀ y0 y1, LeO (graftwoodref04_Element.j0 k y0 y1) (graftwoodref04_Element.j0 (k + 1) y0 y1)) ∧ (∀ y0 y1, LeO (graftwoodref04_Element.l0 k y0 y1) (graftwoodref04_Element.l0 (k + 1) y0 y1))
 | 0 => ⟨fun _ _ r h => by simp [graftwoodref04_Element.j0] at h, fun _ _ r h => by simp [graftwoodref04_Element.l0] at h⟩
 | k + 1 => by
  obtain ⟨ih0, ih1⟩ := graftwoodref04_Element.mono_l k
  refine ⟨?_, ?_⟩
  ·intro y0 y1
   unfold graftwoodref04_Element.j0
   repeat' first | (with_reducible first | apply ih0 | apply ih1 | apply graftwoodref01_Class.mono | apply LeO.refl | apply LeO.none | apply LeO.ite | refine LeO.bind ?_ (fun _ => ?_)) | apply ih0 | apply ih1 | apply graftwoodref01_Class.mono | exact LeO.none _ | refine LeO.ite ?_ ?_ | refine LeO.bind ?_ (fun _ => ?_)
  ·intro y0 y1
   unfold graftwoodref04_Element.l0
   repeat' first | (with_reducible first | apply ih0 | apply ih1 | apply graftwoodref01_Class.mono | apply LeO.refl | apply LeO.none | apply LeO.ite | refine LeO.bind ?_ (fun _ => ?_)) | apply ih0 | apply ih1 | apply graftwoodref01_Class.mono | exact LeO.none _ | refine LeO.ite ?_ ?_ | refine LeO.bind ?_ (fun _ => ?_)
theorem graftwoodref04_Element.mono : ∀ a0 k, LeO (graftwoodref04_Element.f k a0) (graftwoodref04_Element.f (k + 1) a0) := by
 intro a0 k
 obtain ⟨ih0, ih1⟩ := graftwoodref04_Element.mono_l k
 unfold graftwoodref04_Element.f
 repeat' first | (with_reducible first | apply ih0 | apply ih1 | apply graftwoodref01_Class.mono | apply LeO.refl | apply LeO.none | apply LeO.ite | refine LeO.bind ?_ (fun _ => ?_)) | apply ih0 | apply ih1 | apply graftwoodref01_Class.mono | exact LeO.none _ | refine LeO.ite ?_ ?_ | refine LeO.bind ?_ (fun _ => ?_)
theorem graftwoodref04_Element.calls (k : Nat) (a0 : ByteArray) (r : Bool) (w : World) (h : graftwoodref04_Element.f k a0 = some r) :
  Calls Tryz.prog 39 #[.string a0] w fun e w' => e = .returned (.bool r) ∧ Drawn0 w w' := by
 unfold graftwoodref04_Element.f at h; have H := h; clear h
 have HC2 := Aside0.mk H
 clear H
 go_enter Tryz.func39, Tryz.ntmps39
 go_upto_region 1 with (fail)
 go_cut [20] (fun v20 wc => ∃ (kq : Nat) (aE : Bool), v20 = .bool aE ∧ Aside0 (graftwoodref04_Element.j0 kq a0 aE = some r) ∧ Aside0 (kq ≤ k) ∧ Drawn0 w wc)
 case first =>
  have H := HC2.out
  clear HC2
  replace H := ifP H; rcases H with ⟨c3, H⟩ | ⟨c3, H⟩
  ·have ac := beq_iff_eq.mpr c3
   have aY := bne_eq_false_iff_eq.mpr c3
   clear c3
   (first | rw [ac] | (simp only [i64_w, i32_w]; rw [ac]) | skip)
   have H' := Aside0.mk H
   clear H
   go_wp2
   go_meet
   case rel => exact ⟨_, (true), rfG, H', ⟨rfO⟩, rfD⟩
  ·have ac := beq_eq_false_iff_ne.mpr c3
   have aY := bne_iff_ne.mpr c3
   (first | rw [ac] | (simp only [i64_w, i32_w]; rw [ac]) | skip)
   replace H := ifN H; obtain ⟨c4, H⟩ := H
   have aI := decide_eq_true c4
   have bi : decide (0 < a0.size) = true := decide_eq_true (by omega)
   clear c4
   replace H := ifP H; rcases H with ⟨c6, H⟩ | ⟨c6, H⟩
   ·have ah := beq_iff_eq.mpr c6
    have aJ := bne_eq_false_iff_eq.mpr c6
    clear c6
    have H' := Aside0.mk H
    clear H
    have p5 : 0 ≤ (0 : Int) := (by omega)
    have q5 : 0 < a0.size := (by have : (0 : Int) < (a0.size : Int) := of_decide_eq_true rfA; omega)
    have hx5 : ∀ h : 0 < a0.size, ((a0[0]'h).toNat : Int) = bt a0 0 := bt_at a0 0
    clear p5
    have qi5 : (0 < (a0.size : Int)) = True := eq_true (of_decide_eq_true rfA)
    replace q5 := eq_true q5
    go_wp2
    go_meet
    case rel => exact ⟨_, (true), rfG, H', ⟨rfO⟩, rfD⟩
   ·have ah := beq_eq_false_iff_ne.mpr c6
    have aJ := bne_iff_ne.mpr c6
    obtain ⟨ji7, aN⟩ : ∃ j_ : Int, (wrap64 ((a0.size : Int) - 1)) = j_ := ⟨_, rfl⟩
    replace H : (if 0 ≤ (ji7) then (if (ji7) < (a0.size : Int) then (graftwoodref04_Element.j0 k a0 ((bt a0 (ji7)) == 46)) else (none)) else (none)) = some r := by first | (rw [aN] at H; exact H) | (simp only [aN] at H ⊢; exact H)
    have bs : (IntKind.i64.wrap ((a0.size : Int) - 1)) = ji7 := (i64_w _).trans aN
    replace H := ifN H; obtain ⟨c8, H⟩ := H
    have al := decide_eq_true c8
    clear c8
    replace H := ifN H; obtain ⟨c9, H⟩ := H
    have ao := decide_eq_true c9
    clear c9
    have H' := Aside0.mk H
    clear H
    have p5 : 0 ≤ (0 : Int) := (by omega)
    have q5 : 0 < a0.size := (by have : (0 : Int) < (a0.size : Int) := of_decide_eq_true rfA; omega)
    have hx5 : ∀ h : 0 < a0.size, ((a0[0]'h).toNat : Int) = bt a0 0 := bt_at a0 0
    clear p5
    have qi5 : (0 < (a0.size : Int)) = True := eq_true (of_decide_eq_true rfA)
    replace q5 := eq_true q5
    have p10 : 0 ≤ ((ji7) : Int) := of_decide_eq_true rfA
    have q10 : (ji7) < (a0.size : Int) := of_decide_eq_true rfA
    have aZ := bt_at a0 (ji7)
    replace p10 := eq_true p10
    replace q10 := eq_true q10
    go_wp2
    go_meet
    case rel => exact ⟨_, (((bt a0 (ji7)) == 46)), (by first | rfl | (simp; done) | (simp only [← aN] <;> (first | rfl | simp)) | (simp [*]; done)), H', ⟨rfO⟩, rfD⟩
 case rest =>
  clear HC2
  obtain ⟨kq, aE, rfl, HA, HJ1, ⟨mc1, rfl⟩⟩ := hcut
  cases kq with
  | zero => exact absurd HA.out (by simp [graftwoodref04_Element.j0])
  | succ kj1 =>
   have H := HA.out
   clear HA
   simp only [graftwoodref04_Element.j0] at H
   replace H := ifB H; rcases H with ⟨rfl, H⟩ | ⟨rfl, H⟩
   ·obtain rfl := smI H
    go_wp2
    go_ret
    exact ⟨rfG, rfD⟩
   ·have H' := Aside0.mk H
    clear H
    go_wp2
    go_loopg [3] kj1 (fun kq v3 w' => ∃ (ab : Int), v3 = .int .i64 ab ∧ Aside0 (graftwoodref04_Element.l0 kq a0 ab = some r) ∧ Aside0 (kq ≤ kj1) ∧ Drawn0 w w')
    case atStart => exact ⟨(0), rfG, H', ⟨Nat.le_refl _⟩, rfD⟩
    case round =>
     clear H'
     obtain ⟨ab, rfl, HA, HK2, ⟨m2, rfl⟩⟩ := hrel
     cases gk with
     | zero => exact absurd HA.out (by simp [graftwoodref04_Element.l0])
     | succ k2 =>
      have H := HA.out
      clear HA
      simp only [graftwoodref04_Element.l0] at H
      replace H := ifP H; rcases H with ⟨c12, H⟩ | ⟨c12, H⟩
      ·have ai := decide_eq_true c12
       clear c12
       replace H := ifN H; obtain ⟨c13, H⟩ := H
       have au := decide_eq_true c13
       clear c13
       replace H := bnd H; obtain ⟨aj, A15, H⟩ := H
       replace H := ifP H; rcases H with ⟨c16, H⟩ | ⟨c16, H⟩
       ·have aD := decide_eq_true c16
        clear c16
        obtain rfl := smI H
        have p14 : 0 ≤ (ab : Int) := of_decide_eq_true rfA
        have q14 : ab < (a0.size : Int) := of_decide_eq_true rfA
        have bk := bt_at a0 ab
        replace p14 := eq_true p14
        replace q14 := eq_true q14
        go_wp2_with (first | ((with_reducible refine gtC 64 ?_); refine xCz 30 Tryz.func64 (graftwoodref01_Class.calls k2 (bt a0 ab) aj _ A15.out) fun nd => ?_))
        go_ret
        exact ⟨rfG, rfD⟩
       ·have aD := decide_eq_false c16
        clear c16
        replace H := ifP H; rcases H with ⟨c17, H⟩ | ⟨c17, H⟩
        ·have bl : decide (3 < aj) = true := decide_eq_true c17
         clear c17
         obtain rfl := smI H
         have p14 : 0 ≤ (ab : Int) := of_decide_eq_true rfA
         have q14 : ab < (a0.size : Int) := of_decide_eq_true rfA
         have bk := bt_at a0 ab
         replace p14 := eq_true p14
         replace q14 := eq_true q14
         go_wp2_with (first | ((with_reducible refine gtC 64 ?_); refine xCz 30 Tryz.func64 (graftwoodref01_Class.calls k2 (bt a0 ab) aj _ A15.out) fun nd => ?_))
         go_ret
         exact ⟨rfG, rfD⟩
        ·have bl : decide (3 < aj) = false := decide_eq_false c17
         clear c17
         have H' := Aside0.mk H
         clear H
         have p14 : 0 ≤ (ab : Int) := of_decide_eq_true rfA
         have q14 : ab < (a0.size : Int) := of_decide_eq_true rfA
         have bk := bt_at a0 ab
         replace p14 := eq_true p14
         replace q14 := eq_true q14
         go_wp2_with (first | ((with_reducible refine gtC 64 ?_); refine xCz 30 Tryz.func64 (graftwoodref01_Class.calls k2 (bt a0 ab) aj _ A15.out) fun nd => ?_))
         go_roundg k2
         case measure => have := HJ1.out; have := HK2.out; omega
         case rel => exact ⟨(wrap64 (ab + 1)), rfG, H', ⟨by have := HJ1.out; have := HK2.out; omega⟩, rfD⟩
      ·have ai := decide_eq_false c12
       clear c12
       obtain rfl := smI H
       go_wp2
       go_ret
       exact ⟨rfG, rfD⟩

/-! ### graftwoodref04_May: function 17 -/
def graftwoodref04_May.l0 : Nat → List ByteArray → Int → Option (Bool)
 | 0, _, _ => none
 | k + 1, x3, x4 => if x4 < (x3.length : Int) then (if 0 ≤ x4 then ((graftwoodref04_Element.f k (rdOf ByteArray.empty x3 x4)).bind fun aQ => (if aQ = true then (graftwoodref04_May.l0 k x3 (wrap64 (x4 + 1))) else (some false))) else (none)) else (some true)
def graftwoodref04_May.f (k : Nat) (a0 : ByteArray) : Option (Bool) := (graftwoodref01_Parts.f k a0 47).bind fun af => (graftwoodref04_May.l0 k af 0)
theorem graftwoodref04_May.mono_l : ∀ k, (∀ y0 y1, LeO (graftwoodref04_May.l0 k y0 y1) (graftwoodref04_May.l0 (k + 1) y0 y1))
 | 0 => fun _ _ r h => by simp [graftwoodref04_May.l0] at h
 | k + 1 => by
  have ih0 := graftwoodref04_May.mono_l k
  ·intro y0 y1
   unfold graftwoodref04_May.l0
   repeat' first | (with_reducible first | apply ih0 | apply graftwoodref01_Parts.mono | apply graftwoodref04_Element.mono | apply LeO.refl | apply LeO.none | apply LeO.ite | refine LeO.bind ?_ (fun _ => ?_)) | apply ih0 | apply graftwoodref01_Parts.mono | apply graftwoodref04_Element.mono | exact LeO.none _ | refine LeO.ite ?_ ?_ | refine LeO.bind ?_ (fun _ => ?_)
theorem graftwoodref04_May.mono : ∀ a0 k, LeO (graftwoodref04_May.f k a0) (graftwoodref04_May.f (k + 1) a0) := by
 intro a0 k
 have ih0 := graftwoodref04_May.mono_l k
 unfold graftwoodref04_May.f
 repeat' first | (with_reducible first | apply ih0 | apply graftwoodref01_Parts.mono | apply graftwoodref04_Element.mono | apply LeO.refl | apply LeO.none | apply LeO.ite | refine LeO.bind ?_ (fun _ => ?_)) | apply ih0 | apply graftwoodref01_Parts.mono | apply graftwoodref04_Element.mono | exact LeO.none _ | refine LeO.ite ?_ ?_ | refine LeO.bind ?_ (fun _ => ?_)
theorem graftwoodref04_May.calls (k : Nat) (a0 : ByteArray) (r : Bool) (w : World) (h : graftwoodref04_May.f k a0 = some r) :
  Calls Tryz.prog 17 #[.string a0] w fun e w' => e = .returned (.bool r) ∧ Below w.heap.size w w' := by
 have HB := am (Below.refl w.heap.size w)
 unfold graftwoodref04_May.f at h; have H := h; clear h
 replace H := bnd H; obtain ⟨af, A2, H⟩ := H
 have H' := Aside0.mk H
 clear H
 go_enter Tryz.func17, Tryz.ntmps17
 go_wp2_with (first | ((with_reducible refine gtC 38 ?_); refine xCl 6 Tryz.func38 (graftwoodref01_Parts.calls k a0 47 af _ A2.out) ?_; rintro e w3 ⟨bq, rfl, ho0, hb⟩; refine ⟨_, rfl, ?_⟩; have bm := am (Kd.R_lower ho0 (below_size (eTx HB.out))); replace HB := am (sTx HB.out hb)))
 go_loopg [4] k (fun kq v4 w' => ∃ (ad : Int), v4 = .int .i64 ad ∧ Aside0 (graftwoodref04_May.l0 kq af ad = some r) ∧ Aside0 (kq ≤ k) ∧ Aside0 (Kd.R Kd.string 9 w' w.heap.size (fun _ => True) bq af) ∧ Aside0 (Below w.heap.size w w'))
 case atStart => exact ⟨(0), rfG, H', ⟨Nat.le_refl _⟩, ⟨rT bm.out⟩, ⟨eTx HB.out⟩⟩
 case round =>
  clear H'
  obtain ⟨ad, rfl, HA, HK1, aG, HB⟩ := hrel
  cases gk with
  | zero => exact absurd HA.out (by simp [graftwoodref04_May.l0])
  | succ k1 =>
   have H := HA.out
   clear HA
   simp only [graftwoodref04_May.l0] at H
   replace H := ifP H; rcases H with ⟨c4, H⟩ | ⟨c4, H⟩
   ·have aI := decide_eq_true c4
    clear c4
    replace H := ifN H; obtain ⟨c5, H⟩ := H
    have bx := decide_eq_true c5
    clear c5
    replace H := bnd H; obtain ⟨aQ, A6, H⟩ := H
    replace H := ifB H; rcases H with ⟨rfl, H⟩ | ⟨rfl, H⟩
    ·have H' := Aside0.mk H
     clear H
     obtain ⟨Ao8, co8, eo8⟩ := Kd.R_slice aG.out
     subst eo8
     have p121 : 0 ≤ (ad : Int) := of_decide_eq_true rfA
     have q121 : ad < (af.length : Int) := of_decide_eq_true rfA
     obtain ⟨ad121, e121, aR⟩ := Kd.at_string (Kd.R_reads' aG.out).2.2 ad p121 q121
     cases e121
     replace p121 := eq_true p121
     replace q121 := eq_true q121
     go_wp2_with (first | ((with_reducible refine gtC 39 ?_); refine xCz 17 Tryz.func39 (graftwoodref04_Element.calls k1 (rdOf ByteArray.empty af ad) true _ A6.out) fun nd => ?_))
     go_roundg k1
     case measure => have := HK1.out; omega
     case rel => exact ⟨(wrap64 (ad + 1)), rfG, H', ⟨by have := HK1.out; omega⟩, ⟨rT aG.out⟩, ⟨eTx HB.out⟩⟩
    ·obtain rfl := smI H
     obtain ⟨Ao9, co9, eo9⟩ := Kd.R_slice aG.out
     subst eo9
     have p121 : 0 ≤ (ad : Int) := of_decide_eq_true rfA
     have q121 : ad < (af.length : Int) := of_decide_eq_true rfA
     obtain ⟨ad121, e121, aR⟩ := Kd.at_string (Kd.R_reads' aG.out).2.2 ad p121 q121
     cases e121
     replace p121 := eq_true p121
     replace q121 := eq_true q121
     go_wp2_with (first | ((with_reducible refine gtC 39 ?_); refine xCz 17 Tryz.func39 (graftwoodref04_Element.calls k1 (rdOf ByteArray.empty af ad) false _ A6.out) fun nd => ?_))
     go_ret
     exact ⟨rfF, eTx HB.out⟩
   ·have aI := decide_eq_false c4
    clear c4
    obtain rfl := smI H
    obtain ⟨bz, bC, br⟩ := Kd.R_slice aG.out
    subst br
    go_wp2
    go_ret
    exact ⟨rfF, eTx HB.out⟩

/-! ### graftwoodref02_digit: function 111 -/
def graftwoodref02_digit.f (a0 : Int) : Option (Int) := if a0 < 48 then (some (-1)) else (if a0 > 57 then (some (-1)) else (some (wrap64 ((wrap64 (a0)) - 48))))
theorem graftwoodref02_digit.calls (a0 : Int) (r : Int) (w : World) (h : graftwoodref02_digit.f a0 = some r) :
  Calls Tryz.prog 111 #[.int .u8 a0] w fun e w' => e = .returned (.int .i64 r) ∧ Drawn0 w w' := by
 unfold graftwoodref02_digit.f at h; have H := h; clear h
 replace H := ifP H; rcases H with ⟨c2, H⟩ | ⟨c2, H⟩
 ·have a2 := decide_eq_true c2
  clear c2
  obtain rfl := smI H
  go_enter Tryz.func111, Tryz.ntmps111
  go_wp2
  go_ret
  exact ⟨rfG, rfD⟩
 ·have a2 := decide_eq_false c2
  clear c2
  replace H := ifP H; rcases H with ⟨c3, H⟩ | ⟨c3, H⟩
  ·have ac : decide (57 < a0) = true := decide_eq_true c3
   clear c3
   obtain rfl := smI H
   go_enter Tryz.func111, Tryz.ntmps111
   go_wp2
   go_ret
   exact ⟨rfG, rfD⟩
  ·have ac : decide (57 < a0) = false := decide_eq_false c3
   clear c3
   obtain rfl := smI H
   go_enter Tryz.func111, Tryz.ntmps111
   go_wp2
   go_ret
   exact ⟨rfG, rfD⟩

/-! ### graftwoodref02_May: function 96 -/
def graftwoodref02_May.l0 : Nat → ByteArray → Int → Option (Bool)
 | 0, _, _ => none
 | k + 1, x0, x3 => if x3 < (x0.size : Int) then (if 0 ≤ x3 then ((graftwoodref02_digit.f (bt x0 x3)).bind fun aw => (if aw < 0 then (some false) else (graftwoodref02_May.l0 k x0 (wrap64 (x3 + 1))))) else (none)) else (if (x0.size : Int) = 1 then (some true) else (if (x0.size : Int) > 1 then (if 0 < (x0.size : Int) then (some ((bt x0 0) != 48)) else (none)) else (some false)))
def graftwoodref02_May.f (k : Nat) (a0 : ByteArray) : Option (Bool) := graftwoodref02_May.l0 k a0 0
theorem graftwoodref02_May.mono_l : ∀ k, (∀ y0 y1, LeO (graftwoodref02_May.l0 k y0 y1) (graftwoodref02_May.l0 (k + 1) y0 y1))
 | 0 => fun _ _ r h => by simp [graftwoodref02_May.l0] at h
 | k + 1 => by
  have ih0 := graftwoodref02_May.mono_l k
  ·intro y0 y1
   unfold graftwoodref02_May.l0
   repeat' first | (with_reducible first | apply ih0 | apply LeO.refl | apply LeO.none | apply LeO.ite | refine LeO.bind ?_ (fun _ => ?_)) | apply ih0 | exact LeO.none _ | refine LeO.ite ?_ ?_ | refine LeO.bind ?_ (fun _ => ?_)
theorem graftwoodref02_May.mono : ∀ a0 k, LeO (graftwoodref02_May.f k a0) (graftwoodref02_May.f (k + 1) a0) := by
 intro a0 k
 have ih0 := graftwoodref02_May.mono_l k
 unfold graftwoodref02_May.f
 repeat' first | (with_reducible first | apply ih0 | apply LeO.refl | apply LeO.none | apply LeO.ite | refine LeO.bind ?_ (fun _ => ?_)) | apply ih0 | exact LeO.none _ | refine LeO.ite ?_ ?_ | refine LeO.bind ?_ (fun _ => ?_)
theorem graftwoodref02_May.calls (k : Nat) (a0 : ByteArray) (r : Bool) (w : World) (h : graftwoodref02_May.f k a0 = some r) :
  Calls Tryz.prog 96 #[.string a0] w fun e w' => e = .returned (.bool r) ∧ Drawn0 w w' := by
 unfold graftwoodref02_May.f at h; have H := h; clear h
 have H' := Aside0.mk H
 clear H
 go_enter Tryz.func96, Tryz.ntmps96
 go_wp2
 go_loopg [3] k (fun kq v3 w' => ∃ (ae : Int), v3 = .int .i64 ae ∧ Aside0 (graftwoodref02_May.l0 kq a0 ae = some r) ∧ Aside0 (kq ≤ k) ∧ Drawn0 w w')
 case atStart => exact ⟨(0), rfG, H', ⟨Nat.le_refl _⟩, rfD⟩
 case round =>
  clear H'
  obtain ⟨ae, rfl, HA, HK1, ⟨m1, rfl⟩⟩ := hrel
  cases gk with
  | zero => exact absurd HA.out (by simp [graftwoodref02_May.l0])
  | succ k1 =>
   have H := HA.out
   clear HA
   simp only [graftwoodref02_May.l0] at H
   replace H := ifP H; rcases H with ⟨c2, H⟩ | ⟨c2, H⟩
   ·have a2 := decide_eq_true c2
    clear c2
    replace H := ifN H; obtain ⟨c3, H⟩ := H
    have ac := decide_eq_true c3
    clear c3
    replace H := bnd H; obtain ⟨aw, A5, H⟩ := H
    replace H := ifP H; rcases H with ⟨c6, H⟩ | ⟨c6, H⟩
    ·have ah := decide_eq_true c6
     clear c6
     obtain rfl := smI H
     have p4 : 0 ≤ (ae : Int) := of_decide_eq_true rfA
     have q4 : ae < (a0.size : Int) := of_decide_eq_true rfA
     have hx4 := bt_at a0 ae
     replace p4 := eq_true p4
     replace q4 := eq_true q4
     go_wp2_with (first | ((with_reducible refine gtC 111 ?_); refine xCz 13 Tryz.func111 (graftwoodref02_digit.calls (bt a0 ae) aw _ A5.out) fun nd => ?_))
     go_ret
     exact ⟨rfG, rfD⟩
    ·have ah := decide_eq_false c6
     clear c6
     have H' := Aside0.mk H
     clear H
     have p4 : 0 ≤ (ae : Int) := of_decide_eq_true rfA
     have q4 : ae < (a0.size : Int) := of_decide_eq_true rfA
     have hx4 := bt_at a0 ae
     replace p4 := eq_true p4
     replace q4 := eq_true q4
     go_wp2_with (first | ((with_reducible refine gtC 111 ?_); refine xCz 13 Tryz.func111 (graftwoodref02_digit.calls (bt a0 ae) aw _ A5.out) fun nd => ?_))
     go_roundg k1
     case measure => have := HK1.out; omega
     case rel => exact ⟨(wrap64 (ae + 1)), rfG, H', ⟨by have := HK1.out; omega⟩, rfD⟩
   ·have a2 := decide_eq_false c2
    clear c2
    replace H := ifP H; rcases H with ⟨c7, H⟩ | ⟨c7, H⟩
    ·have ax := beq_iff_eq.mpr c7
     have a3 := bne_eq_false_iff_eq.mpr c7
     clear c7
     obtain rfl := smI H
     go_wp2
     go_ret
     exact ⟨rfG, rfD⟩
    ·have ax := beq_eq_false_iff_ne.mpr c7
     have a3 := bne_iff_ne.mpr c7
     replace H := ifP H; rcases H with ⟨c8, H⟩ | ⟨c8, H⟩
     ·have al : decide (1 < (a0.size : Int)) = true := decide_eq_true c8
      have a4 : decide (1 < a0.size) = true := decide_eq_true (by omega)
      clear c8
      replace H := ifN H; obtain ⟨c9, H⟩ := H
      have ao := decide_eq_true c9
      have bo : decide (0 < a0.size) = true := decide_eq_true (by omega)
      clear c9
      obtain rfl := smI H
      have p10 : 0 ≤ (0 : Int) := (by omega)
      have q10 : 0 < a0.size := (by have : (0 : Int) < (a0.size : Int) := of_decide_eq_true rfA; omega)
      have aZ : ∀ h : 0 < a0.size, ((a0[0]'h).toNat : Int) = bt a0 0 := bt_at a0 0
      clear p10
      have qi10 : (0 < (a0.size : Int)) = True := eq_true (of_decide_eq_true rfA)
      replace q10 := eq_true q10
      go_wp2
      go_ret
      exact ⟨rfG, rfD⟩
     ·have al : decide (1 < (a0.size : Int)) = false := decide_eq_false c8
      have a4 : decide (1 < a0.size) = false := decide_eq_false (by omega)
      clear c8
      obtain rfl := smI H
      go_wp2
      go_ret
      exact ⟨rfG, rfD⟩

end Go.Proofs.YtknmfmedklfepaaGreatDoor.P
