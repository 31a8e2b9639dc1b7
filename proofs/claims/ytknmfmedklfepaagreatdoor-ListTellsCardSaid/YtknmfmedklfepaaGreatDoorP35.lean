-- half the indentation
import Derived.Test.YtknmfmedklfepaaGreatDoorSqz
import Derived.Test.YtknmfmedklfepaaGreatDoorP0
import Derived.Test.YtknmfmedklfepaaGreatDoorP1
namespace Go.Proofs.YtknmfmedklfepaaGreatDoor.P
open Go.RowKit Go.Proofs.YtknmfmedklfepaaGreatDoorW.PrintWords Go.Proofs.YtknmfmedklfepaaGreatDoorW.PrintLast Go.Proofs.YtknmfmedklfepaaGreatDoorW.PrintMore
attribute [local go_sem] max2_int min2_int max_two min_two max_three min_three max_four min_four
set_option linter.unusedVariables false
set_option linter.unusedSimpArgs false
set_option maxHeartbeats 8000000
set_option maxRecDepth 100000

attribute [local go_sem high] eqA55
/-! ### graftwoodref05_Same: function 15 -/
def graftwoodref05_Same.l0 : Nat → List (S55) → List (S55) → Int → Option (Bool)
 | 0, _, _, _ => none
 | k + 1, x0, x1, x5 => if x5 < (x0.length : Int) then (if 0 ≤ x5 then (if x5 < (x1.length : Int) then (if (!((((rd_T55 x0 x5).f0).toList) == (((rd_T55 x1 x5).f0).toList)) || (!((((rd_T55 x0 x5).f1).toList) == (((rd_T55 x1 x5).f1).toList)))) = true then (some false) else (graftwoodref05_Same.l0 k x0 x1 (wrap64 (x5 + 1)))) else (none)) else (none)) else (some true)
def graftwoodref05_Same.f (k : Nat) (l0 : List (S55)) (l1 : List (S55)) : Option (Bool) := if (l0.length : Int) = (l1.length : Int) then (graftwoodref05_Same.l0 k l0 l1 0) else (some false)
theorem graftwoodref05_Same.mono_l : ∀ k, (∀ y0 y1 y2, LeO (graftwoodref05_Same.l0 k y0 y1 y2) (graftwoodref05_Same.l0 (k + 1) y0 y1 y2))
 | 0 => fun _ _ _ r h => by simp [graftwoodref05_Same.l0] at h
 | k + 1 => by
  have ih0 := graftwoodref05_Same.mono_l k
  ·intro y0 y1 y2
   unfold graftwoodref05_Same.l0
   repeat' first | (with_reducible first | apply ih0 | apply LeO.refl | apply LeO.none | apply LeO.ite | refine LeO.bind ?_ (fun _ => ?_)) | apply ih0 | exact LeO.none _ | refine LeO.ite ?_ ?_ | refine LeO.bind ?_ (fun _ => ?_)
theorem graftwoodref05_Same.mono : ∀ a0 a1 k, LeO (graftwoodref05_Same.f k a0 a1) (graftwoodref05_Same.f (k + 1) a0 a1) := by
 intro a0 a1 k
 have ih0 := graftwoodref05_Same.mono_l k
 unfold graftwoodref05_Same.f
 repeat' first | (with_reducible first | apply ih0 | apply LeO.refl | apply LeO.none | apply LeO.ite | refine LeO.bind ?_ (fun _ => ?_)) | apply ih0 | exact LeO.none _ | refine LeO.ite ?_ ?_ | refine LeO.bind ?_ (fun _ => ?_)
theorem graftwoodref05_Same.calls (k : Nat) (A0 : Option Addr) (c0 : Nat) (l0 : List (S55)) (A1 : Option Addr) (c1 : Nat) (l1 : List (S55)) (r : Bool) (w : World) (hr0 : Kd.C k55 w A0 l0.length l0) (hc0 : l0.length ≤ c0) (hr1 : Kd.C k55 w A1 l1.length l1) (hc1 : l1.length ≤ c1) (h : graftwoodref05_Same.f k l0 l1 = some r) :
  Calls Tryz.prog 15 #[.slice A0 l0.length c0, .slice A1 l1.length c1] w fun e w' => e = .returned (.bool r) ∧ Drawn0 w w' := by
 have hu55 := Tryz.underlying55
 have HR0 := Aside0.mk hr0
 have HC0 := Aside0.mk hc0
 clear hr0 hc0
 have HR1 := Aside0.mk hr1
 have HC1 := Aside0.mk hc1
 clear hr1 hc1
 unfold graftwoodref05_Same.f at h; have H := h; clear h
 replace H := ifP H; rcases H with ⟨c3, H⟩ | ⟨c3, H⟩
 ·have ax := beq_iff_eq.mpr c3
  have az := bne_eq_false_iff_eq.mpr c3
  have aA : (l0.length == l1.length) = true := by first | simpa using c3 | (simp at c3 ⊢; omega)
  clear c3
  have H' := Aside0.mk H
  clear H
  go_enter Tryz.func15, Tryz.ntmps15
  go_wp2
  repeat (go_quiet (fail); try go_wp2)
  go_loopg [5] k (fun kq v5 w' => ∃ (ab : Int), v5 = .int .i64 ab ∧ Aside0 (graftwoodref05_Same.l0 kq l0 l1 ab = some r) ∧ Aside0 (kq ≤ k) ∧ Drawn0 w w')
  case atStart => exact ⟨(0), rfG, H', ⟨Nat.le_refl _⟩, rfD⟩
  case round =>
   clear H'
   obtain ⟨ab, rfl, HA, HK1, ⟨m1, rfl⟩⟩ := hrel
   cases gk with
   | zero => exact absurd HA.out (by simp [graftwoodref05_Same.l0])
   | succ k1 =>
    have H := HA.out
    clear HA
    simp only [graftwoodref05_Same.l0] at H
    replace H := ifP H; rcases H with ⟨c4, H⟩ | ⟨c4, H⟩
    ·have aI := decide_eq_true c4
     clear c4
     replace H := ifN H; obtain ⟨c5, H⟩ := H
     have aJ := decide_eq_true c5
     clear c5
     replace H := ifN H; obtain ⟨c6, H⟩ := H
     have aK := decide_eq_true c6
     clear c6
     replace H := ifP H; rcases H with ⟨c7, H⟩ | ⟨c7, H⟩
     ·have aM := c7
      clear c7
      obtain rfl := smI H
      have p426 : 0 ≤ (ab : Int) := of_decide_eq_true rfA
      have q426 : ab < (l0.length : Int) := of_decide_eq_true rfA
      obtain ⟨ad426, e426, ap, aq⟩ := at_T55 HR0.out ab p426 q426
      cases e426
      replace p426 := eq_true p426
      replace q426 := eq_true q426
      have p427 : 0 ≤ (ab : Int) := of_decide_eq_true rfA
      have q427 : ab < (l1.length : Int) := of_decide_eq_true rfA
      obtain ⟨ad427, e427, ar, au⟩ := at_T55 HR1.out ab p427 q427
      cases e427
      replace p427 := eq_true p427
      replace q427 := eq_true q427
      go_wp2
      repeat (go_quiet (fail); try go_wp2)
      go_ret
      exact ⟨rfG, rfD⟩
     ·have aM := Bool.eq_false_iff.mpr c7
      clear c7
      have H' := Aside0.mk H
      clear H
      have p426 : 0 ≤ (ab : Int) := of_decide_eq_true rfA
      have q426 : ab < (l0.length : Int) := of_decide_eq_true rfA
      obtain ⟨ad426, e426, ap, aq⟩ := at_T55 HR0.out ab p426 q426
      cases e426
      replace p426 := eq_true p426
      replace q426 := eq_true q426
      have p427 : 0 ≤ (ab : Int) := of_decide_eq_true rfA
      have q427 : ab < (l1.length : Int) := of_decide_eq_true rfA
      obtain ⟨ad427, e427, ar, au⟩ := at_T55 HR1.out ab p427 q427
      cases e427
      replace p427 := eq_true p427
      replace q427 := eq_true q427
      go_wp2
      repeat (go_quiet (fail); try go_wp2)
      go_roundg k1
      case measure => have := HK1.out; omega
      case rel => exact ⟨(wrap64 (ab + 1)), rfG, H', ⟨by have := HK1.out; omega⟩, rfD⟩
    ·have aI := decide_eq_false c4
     clear c4
     obtain rfl := smI H
     go_wp2
     repeat (go_quiet (fail); try go_wp2)
     go_ret
     exact ⟨rfG, rfD⟩
 ·have ax := beq_eq_false_iff_ne.mpr c3
  have az := bne_iff_ne.mpr c3
  have aA : (l0.length == l1.length) = false := by first | simpa using c3 | (simp at c3 ⊢; omega)
  obtain rfl := smI H
  go_enter Tryz.func15, Tryz.ntmps15
  go_wp2
  repeat (go_quiet (fail); try go_wp2)
  go_ret
  exact ⟨rfG, rfD⟩

/-! ### graftwoodref17_Build: function 16 -/
def graftwoodref17_Build.l0 : Nat → List (S63) → List (S55) → Int → Option ((List (S55)))
 | 0, _, _, _ => none
 | k + 1, x0, x3, x4 => if x4 < (x0.length : Int) then (if 0 ≤ x4 then (if 0 ≤ (wrap64 ((((rd_T63 x0 x4).f1).length : Int) - 1)) then (if (wrap64 ((((rd_T63 x0 x4).f1).length : Int) - 1)) < (((rd_T63 x0 x4).f1).length : Int) then (if x3.length < 4398046511104 then (graftwoodref17_Build.l0 k x0 (x3 ++ [(⟨(rd_T63 x0 x4).f0, rdOf ByteArray.empty ((rd_T63 x0 x4).f1) (wrap64 ((((rd_T63 x0 x4).f1).length : Int) - 1))⟩ : S55)]) (wrap64 (x4 + 1))) else (none)) else (none)) else (none)) else (none)) else (some x3)
def graftwoodref17_Build.f (k : Nat) (l0 : List (S63)) : Option ((List (S55))) := graftwoodref17_Build.l0 k l0 ([] : List (S55)) 0
theorem graftwoodref17_Build.mono_l : ∀ k, (∀ y0 y1 y2, LeO (graftwoodref17_Build.l0 k y0 y1 y2) (graftwoodref17_Build.l0 (k + 1) y0 y1 y2))
 | 0 => fun _ _ _ r h => by simp [graftwoodref17_Build.l0] at h
 | k + 1 => by
  have ih0 := graftwoodref17_Build.mono_l k
  ·intro y0 y1 y2
   unfold graftwoodref17_Build.l0
   repeat' first | (with_reducible first | apply ih0 | apply LeO.refl | apply LeO.none | apply LeO.ite | refine LeO.bind ?_ (fun _ => ?_)) | apply ih0 | exact LeO.none _ | refine LeO.ite ?_ ?_ | refine LeO.bind ?_ (fun _ => ?_)
theorem graftwoodref17_Build.mono : ∀ a0 k, LeO (graftwoodref17_Build.f k a0) (graftwoodref17_Build.f (k + 1) a0) := by
 intro a0 k
 have ih0 := graftwoodref17_Build.mono_l k
 unfold graftwoodref17_Build.f
 repeat' first | (with_reducible first | apply ih0 | apply LeO.refl | apply LeO.none | apply LeO.ite | refine LeO.bind ?_ (fun _ => ?_)) | apply ih0 | exact LeO.none _ | refine LeO.ite ?_ ?_ | refine LeO.bind ?_ (fun _ => ?_)
def graftwoodref17_Build.T5 : Bool × List (List Nat × List Nat) := (true, [([], []), ([], []), ([], []), ([1, 2], [1, 2]), ([3], [3]), ([4], [4]), ([], []), ([], []), ([6, 7], [6, 7]), ([8], [8]), ([9], [9]), ([], []), ([], []), ([11, 12], [11, 12]), ([13], [13]), ([14], [14]), ([15], [15]), ([16], [16]), ([10, 17], [10, 17]), ([18], [18]), ([5, 19], [5, 19]), ([20], [20]), ([0, 21], [0, 21]), ([22, 22, 0, 1, 2, 3, 4, 5, 6, 7, 8, 9, 10, 11, 12, 13, 14, 15, 16, 17, 18, 19, 20, 21, 22], [0, 22])])
def graftwoodref17_Build.B5 : List Nat := [0, 0, 0, 6, 14, 30, 0, 0, 192, 448, 960, 0, 0, 6144, 14336, 30720, 63488, 129024, 262080, 524224, 1048574, 2097150, 4194303, 8388607]
theorem graftwoodref17_Build.tab5 : rtab .any (opsOf Tryz.f16 5) = graftwoodref17_Build.T5 := by kernel_rfl
theorem graftwoodref17_Build.bits5 : waitsOk graftwoodref17_Build.T5.2 graftwoodref17_Build.B5 = true := by kernel_rfl
theorem graftwoodref17_Build.calls (k : Nat) (A0 : Option Addr) (c0 : Nat) (l0 : List (S63)) (r : List (S55)) (w : World) (hr0 : Kd.C k63 w A0 l0.length l0) (hc0 : l0.length ≤ c0) (h : graftwoodref17_Build.f k l0 = some r) :
  Calls Tryz.prog 16 #[.slice A0 l0.length c0] w fun e w' => ∃ v0_ : Value, e = .returned (v0_) ∧ Kd.R k55 55 w' w.heap.size (fun _ => True) v0_ r ∧ Below w.heap.size w w' := by
 have hu55 := Tryz.underlying55
 have HR0 := Aside0.mk hr0
 have HC0 := Aside0.mk hc0
 clear hr0 hc0
 have HB := am (Below.refl w.heap.size w)
 unfold graftwoodref17_Build.f at h; have H := h; clear h
 have H' := Aside0.mk H
 clear H
 go_enter Tryz.func16, Tryz.ntmps16
 go_wp2
 go_loopg [3, 4] k (fun kq v3 v4 w' => ∃ (aj : List (S55)) (aa : Int), v4 = .int .i64 aa ∧ Aside0 (graftwoodref17_Build.l0 kq l0 aj aa = some r) ∧ Aside0 (kq ≤ k) ∧ Aside0 (Kd.R k55 55 w' w.heap.size (fun _ => True) v3 aj) ∧ Aside0 (Below w.heap.size w w'))
 case atStart => exact ⟨(([] : List (S55))), (0), rfG, H', ⟨Nat.le_refl _⟩, ⟨rfM⟩, ⟨eTx HB.out⟩⟩
 case round =>
  clear H'
  obtain ⟨aj, aa, rfl, HA, HK1, ao, HB⟩ := hrel
  cases gk with
  | zero => exact absurd HA.out (by simp [graftwoodref17_Build.l0])
  | succ k1 =>
   have H := HA.out
   clear HA
   simp only [graftwoodref17_Build.l0] at H
   replace H := ifP H; rcases H with ⟨c2, H⟩ | ⟨c2, H⟩
   ·have aN := decide_eq_true c2
    clear c2
    replace H := ifN H; obtain ⟨c3, H⟩ := H
    have ax := decide_eq_true c3
    clear c3
    obtain ⟨ji4, ay⟩ : ∃ j_ : Int, (wrap64 ((((rd_T63 l0 aa).f1).length : Int) - 1)) = j_ := ⟨_, rfl⟩
    replace H : (if 0 ≤ (ji4) then (if (ji4) < (((rd_T63 l0 aa).f1).length : Int) then (if aj.length < 4398046511104 then (graftwoodref17_Build.l0 k1 l0 (aj ++ [(⟨(rd_T63 l0 aa).f0, rdOf ByteArray.empty ((rd_T63 l0 aa).f1) (ji4)⟩ : S55)]) (wrap64 (aa + 1))) else (none)) else (none)) else (none)) = some r := by first | (rw [ay] at H; exact H) | (simp only [ay] at H ⊢; exact H)
    have aX : (IntKind.i64.wrap ((((rd_T63 l0 aa).f1).length : Int) - 1)) = ji4 := (i64_w _).trans ay
    replace H := ifN H; obtain ⟨c5, H⟩ := H
    have aJ := decide_eq_true c5
    clear c5
    replace H := ifN H; obtain ⟨c6, H⟩ := H
    have aK := decide_eq_true c6
    clear c6
    replace H := ifN H; obtain ⟨c7, H⟩ := H
    have LMc7 := Aside0.mk c7
    clear c7
    obtain ⟨aC, ak⟩ : ∃ y_ : List (S55), y_ = (aj ++ [(⟨(rd_T63 l0 aa).f0, rdOf ByteArray.empty ((rd_T63 l0 aa).f1) (ji4)⟩ : S55)]) := ⟨_, rfl⟩
    replace H : (graftwoodref17_Build.l0 k1 l0 aC (wrap64 (aa + 1))) = some r := by first | (rw [ak]; with_reducible exact H) | (have H2_ := (Option.bind_some _ _).symm.trans H; rw [ak]; with_reducible exact H2_) | (have H2_ := (Option.bind_some _ _).symm.trans H; with_reducible exact H2_) | with_reducible exact H | (rw [ak]; exact H) | exact H
    have Ny432 := Aside0.mk ak
    clear ak
    have H' := Aside0.mk H
    clear H
    try go_wp2
    replace ao := am (Kd.R_drew ao.out)
    replace HB := am (below_drew1 HB.out)
    have p428 : 0 ≤ (aa : Int) := of_decide_eq_true rfA
    have q428 : aa < (l0.length : Int) := of_decide_eq_true rfA
    obtain ⟨ad428, aQ, al, e428, af, ac, hl428_1, hi428_1⟩ := at_T63 HR0.out aa p428 q428
    have hw428_1 := ac
    have hw428_0 := af
    cases e428
    replace af := (HB.out.cell (World.block_lt_of_cell? w _ af)).trans af
    replace ac := (HB.out.cell (World.block_lt_of_cell? w _ ac)).trans ac
    have av := Aside0.mk hi428_1
    have aE := Aside0.mk hl428_1
    clear hi428_1 hl428_1
    replace p428 := eq_true p428
    replace q428 := eq_true q428
    have p429 : 0 ≤ (aa : Int) := of_decide_eq_true rfA
    have q429 : aa < (l0.length : Int) := of_decide_eq_true rfA
    obtain ⟨ad429, aR, aU, e429, ag, ad, hl429_1, hi429_1⟩ := at_T63 HR0.out aa p429 q429
    have hw429_1 := ad
    have hw429_0 := ag
    obtain rfl : ad428 = ad429 := (by injection e429)
    replace ag := (HB.out.cell (World.block_lt_of_cell? w _ ag)).trans ag
    replace ad := (HB.out.cell (World.block_lt_of_cell? w _ ad)).trans ad
    have an := Aside0.mk hi429_1
    have aG := Aside0.mk hl429_1
    clear hi429_1 hl429_1
    replace p429 := eq_true p429
    replace q429 := eq_true q429
    have ea_ := Option.some.inj (ac.symm.trans ad)
    injection ea_ with ea_ en_ ec_
    subst ea_
    subst ec_
    clear en_
    have p430 : 0 ≤ (aa : Int) := of_decide_eq_true rfA
    have q430 : aa < (l0.length : Int) := of_decide_eq_true rfA
    obtain ⟨ad430, aV, aW, e430, ah, ae, hl430_1, hi430_1⟩ := at_T63 HR0.out aa p430 q430
    have hw430_1 := ae
    have hw430_0 := ah
    obtain rfl : ad428 = ad430 := (by injection e430)
    replace ah := (HB.out.cell (World.block_lt_of_cell? w _ ah)).trans ah
    replace ae := (HB.out.cell (World.block_lt_of_cell? w _ ae)).trans ae
    have aw := Aside0.mk hi430_1
    have aH := Aside0.mk hl430_1
    clear hi430_1 hl430_1
    replace p430 := eq_true p430
    replace q430 := eq_true q430
    have ea_ := Option.some.inj (ac.symm.trans ae)
    injection ea_ with ea_ en_ ec_
    subst ea_
    subst ec_
    clear en_
    have p431 : 0 ≤ ((ji4) : Int) := of_decide_eq_true rfA
    have q431 : (ji4) < (((rd_T63 l0 aa).f1).length : Int) := of_decide_eq_true rfA
    obtain ⟨ad431, e431, ai⟩ := Kd.at_string an.out (ji4) p431 q431
    have hw431_0 := ai
    cases e431
    replace ai := (HB.out.cell (World.block_lt_of_cell? w _ ai)).trans ai
    replace p431 := eq_true p431
    replace q431 := eq_true q431
    refine start_ (n := 24) (S := fun w' => w'.cell? (ad428.add ((aa).toNat * 2)) = some (.string ((rd_T63 l0 aa).f0)) ∧ w'.cell? ⟨(ad428.add ((aa).toNat * 2)).block, (ad428.add ((aa).toNat * 2)).off + 1, none⟩ = some (.slice (some ad431) ((rd_T63 l0 aa).f1).length al) ∧ w'.cell? (ad428.add ((aa).toNat * 2)) = some (.string ((rd_T63 l0 aa).f0)) ∧ w'.cell? ⟨(ad428.add ((aa).toNat * 2)).block, (ad428.add ((aa).toNat * 2)).off + 1, none⟩ = some (.slice (some ad431) ((rd_T63 l0 aa).f1).length al) ∧ w'.cell? (ad428.add ((aa).toNat * 2)) = some (.string ((rd_T63 l0 aa).f0)) ∧ w'.cell? ⟨(ad428.add ((aa).toNat * 2)).block, (ad428.add ((aa).toNat * 2)).off + 1, none⟩ = some (.slice (some ad431) ((rd_T63 l0 aa).f1).length al) ∧ w'.cell? (ad431.add ((ji4)).toNat) = some (.string (rdOf ByteArray.empty ((rd_T63 l0 aa).f1) (ji4)))) (ds := []) (bA 24 0) rfK rfl rfK ⟨((HB.out.cell (World.block_lt_of_cell? w _ hw428_0)).trans hw428_0), ((HB.out.cell (World.block_lt_of_cell? w _ hw428_1)).trans hw428_1), ((HB.out.cell (World.block_lt_of_cell? w _ hw429_0)).trans hw429_0), ((HB.out.cell (World.block_lt_of_cell? w _ hw429_1)).trans hw429_1), ((HB.out.cell (World.block_lt_of_cell? w _ hw430_0)).trans hw430_0), ((HB.out.cell (World.block_lt_of_cell? w _ hw430_1)).trans hw430_1), ((HB.out.cell (World.block_lt_of_cell? w _ hw431_0)).trans hw431_0)⟩ (fun hHeld => ?_); refine with_tabW graftwoodref17_Build.tab5 graftwoodref17_Build.bits5 (fun HT_ HW_ => ?_)
    generalize wr.drew = w8 at ao HB av an aw af ac ag ad ah ae ai hHeld ⊢
    refine pT 0 11 (bA 24 1) HT_.out ?_
    refine pT 1 12 (bA 24 3) HT_.out ?_
    refine pT 2 13 (bA 24 7) HT_.out ?_
    refine pT 3 14 (bA 24 15) HT_.out ?_
    refine pT 4 15 (bA 24 31) HT_.out ?_
    refine pT 6 17 (bA 24 95) HT_.out ?_
    refine pT 7 18 (bA 24 223) HT_.out ?_
    refine pT 8 19 (bA 24 479) HT_.out ?_
    refine pT 9 20 (bA 24 991) HT_.out ?_
    refine pT 11 22 (bA 24 3039) HT_.out ?_
    refine pT 12 23 (bA 24 7135) HT_.out ?_
    refine pT 13 24 (bA 24 15327) HT_.out ?_
    refine pT 14 25 (bA 24 31711) HT_.out ?_
    refine tT 5 16 (bA 24 31743) HT_.out HW_.out hHeld ?_ (hy := by rintro w' ⟨s0, s1, s2, s3, s4, s5, s6⟩; go_simp; with_reducible rfl)
    refine tT 10 21 (bA 24 32767) HT_.out HW_.out hHeld ?_ (hy := by rintro w' ⟨s0, s1, s2, s3, s4, s5, s6⟩; go_simp; with_reducible rfl)
    refine tT 15 26 (bA 24 65535) HT_.out HW_.out hHeld ?_ (hy := by rintro w' ⟨s0, s1, s2, s3, s4, s5, s6⟩; go_simp; with_reducible rfl)
    refine pT 16 27 (bA 24 131071) HT_.out ?_
    refine pT 17 28 (bA 24 262143) HT_.out ?_
    refine pT 18 29 (bA 24 524287) HT_.out ?_
    refine tT 19 30 (bA 24 1048575) HT_.out HW_.out hHeld ?_ (hy := by rintro w' ⟨s0, s1, s2, s3, s4, s5, s6⟩; go_simp; with_reducible rfl)
    refine pT 20 31 (bA 24 2097151) HT_.out ?_
    refine oT 21 (bA 24 4194303) HT_.out fun K hK => ?_
    refine value_ (w1 := ?_) (v := ?_) (by rfl) rfl ?_ ?_
    rotate_left 2
    ·go_simp
     constructor
     ·rfl
     ·rfl
    refine hK.out _ _ ⟨(World.cell?_alloc_lt _ _ _ (World.block_lt_of_cell? _ _ (((HB.out.cell (World.block_lt_of_cell? w _ hw428_0)).trans hw428_0)))).trans (((HB.out.cell (World.block_lt_of_cell? w _ hw428_0)).trans hw428_0)), (World.cell?_alloc_lt _ _ _ (World.block_lt_of_cell? _ _ (((HB.out.cell (World.block_lt_of_cell? w _ hw428_1)).trans hw428_1)))).trans (((HB.out.cell (World.block_lt_of_cell? w _ hw428_1)).trans hw428_1)), (World.cell?_alloc_lt _ _ _ (World.block_lt_of_cell? _ _ (((HB.out.cell (World.block_lt_of_cell? w _ hw429_0)).trans hw429_0)))).trans (((HB.out.cell (World.block_lt_of_cell? w _ hw429_0)).trans hw429_0)), (World.cell?_alloc_lt _ _ _ (World.block_lt_of_cell? _ _ (((HB.out.cell (World.block_lt_of_cell? w _ hw429_1)).trans hw429_1)))).trans (((HB.out.cell (World.block_lt_of_cell? w _ hw429_1)).trans hw429_1)), (World.cell?_alloc_lt _ _ _ (World.block_lt_of_cell? _ _ (((HB.out.cell (World.block_lt_of_cell? w _ hw430_0)).trans hw430_0)))).trans (((HB.out.cell (World.block_lt_of_cell? w _ hw430_0)).trans hw430_0)), (World.cell?_alloc_lt _ _ _ (World.block_lt_of_cell? _ _ (((HB.out.cell (World.block_lt_of_cell? w _ hw430_1)).trans hw430_1)))).trans (((HB.out.cell (World.block_lt_of_cell? w _ hw430_1)).trans hw430_1)), (World.cell?_alloc_lt _ _ _ (World.block_lt_of_cell? _ _ (((HB.out.cell (World.block_lt_of_cell? w _ hw431_0)).trans hw431_0)))).trans (((HB.out.cell (World.block_lt_of_cell? w _ hw431_0)).trans hw431_0))⟩ (fun hHeld => ?_)
    clear hK K
    refine mN 32 ?_
    refine oT 22 (bA 24 8388607) HT_.out fun K hK => ?_
    refine Kd.R_append_step k55 (w0 := w) w.heap.size (by rfl) (.tmp 11) (.tmp 32) 22 55 (.agg #[(.string ⟨#[]⟩), (.string ⟨#[]⟩)]) 32 rfl Tryz.underlying22 info55 rfl (by decide) (by omega) u3 aj (⟨(rd_T63 l0 aa).f0, rdOf ByteArray.empty ((rd_T63 l0 aa).f1) (ji4)⟩ : S55) [.string ((rd_T63 l0 aa).f0), .string (rdOf ByteArray.empty ((rd_T63 l0 aa).f1) (ji4))] (fun _ => True) (fun _ => False) rfl rfl ?aP (fun _ hk => hk.elim) ?aF ?aO ?aB ?aS ?aL ?_
    (case aP => exact k55_mkM _ _ _ (⟨(rd_T63 l0 aa).f0, rdOf ByteArray.empty ((rd_T63 l0 aa).f1) (ji4)⟩ : S55))
    (case aB => exact (eTx HB.out))
    (case aF => exact (fun _ _ => trivial))
    (case aO => exact (rT ao.out))
    (case aS => exact (below_size (eTx HB.out)))
    (case aL => have := LMc7.out; omega)
    intro aY w9 ho hb hg hat
    rw [← Ny432.out] at ho
    replace HB := am (hb)
    have aD := am (ho)
    clear ao ho hb hg hat
    refine hK.out _ _ ⟨((HB.out.cell (World.block_lt_of_cell? w _ hw428_0)).trans hw428_0), ((HB.out.cell (World.block_lt_of_cell? w _ hw428_1)).trans hw428_1), ((HB.out.cell (World.block_lt_of_cell? w _ hw429_0)).trans hw429_0), ((HB.out.cell (World.block_lt_of_cell? w _ hw429_1)).trans hw429_1), ((HB.out.cell (World.block_lt_of_cell? w _ hw430_0)).trans hw430_0), ((HB.out.cell (World.block_lt_of_cell? w _ hw430_1)).trans hw430_1), ((HB.out.cell (World.block_lt_of_cell? w _ hw431_0)).trans hw431_0)⟩ (fun hHeld => ?_)
    clear hK K
    refine mN 33 ?_
    refine pT 23 3 (bA 24 16777215) HT_.out ?_
    refine done_ (done_of HT_.out rfK) ?_
    try go_wp2
    go_roundg k1
    case measure => have := HK1.out; omega
    case rel => exact ⟨(aC), (wrap64 (aa + 1)), rfG, H', ⟨by have := HK1.out; omega⟩, ⟨rT aD.out⟩, ⟨eTx HB.out⟩⟩
   ·have aN := decide_eq_false c2
    clear c2
    obtain rfl := smI H
    go_wp2
    go_ret
    exact ⟨_, rfF, by (with_reducible repeat (first | apply Kd.R_alloc | apply Kd.R_drewN | apply Kd.R_drew)); exact ao.out, eTx HB.out⟩

end Go.Proofs.YtknmfmedklfepaaGreatDoor.P
