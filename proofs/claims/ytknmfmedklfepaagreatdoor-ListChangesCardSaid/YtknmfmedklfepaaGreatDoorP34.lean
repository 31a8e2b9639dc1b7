-- half the indentation
import Derived.Test.YtknmfmedklfepaaGreatDoorReg
import Derived.Test.YtknmfmedklfepaaGreatDoorSqz
import Derived.Test.YtknmfmedklfepaaGreatDoorP0
import Derived.Test.YtknmfmedklfepaaGreatDoorP1
import Derived.Test.YtknmfmedklfepaaGreatDoorP9
namespace Go.Proofs.YtknmfmedklfepaaGreatDoor.P
open Go.RowKit Go.Proofs.YtknmfmedklfepaaGreatDoorW.PrintWords Go.Proofs.YtknmfmedklfepaaGreatDoorW.PrintLast Go.Proofs.YtknmfmedklfepaaGreatDoorW.PrintMore
attribute [local go_sem] max2_int min2_int max_two min_two max_three min_three max_four min_four
set_option linter.unusedVariables false
set_option linter.unusedSimpArgs false
set_option maxHeartbeats 8000000
set_option maxRecDepth 100000

attribute [local go_sem high] eqA55
/-! ### graftwoodref17_Pick: function 19 -/
def graftwoodref17_Pick.l0 : Nat → List (S55) → ByteArray → Int → Option (ByteArray)
 | 0, _, _, _ => none
 | k + 1, x0, x1, x5 => if x5 < (x0.length : Int) then (if 0 ≤ x5 then (if ((rd_T55 x0 x5).f0).toList = x1.toList then (some ((rd_T55 x0 x5).f1)) else (graftwoodref17_Pick.l0 k x0 x1 (wrap64 (x5 + 1)))) else (none)) else (some (⟨#[]⟩ : ByteArray))
def graftwoodref17_Pick.f (k : Nat) (l0 : List (S55)) (a1 : ByteArray) : Option (ByteArray) := graftwoodref17_Pick.l0 k l0 a1 0
theorem graftwoodref17_Pick.mono_l : ∀ k, (∀ y0 y1 y2, LeO (graftwoodref17_Pick.l0 k y0 y1 y2) (graftwoodref17_Pick.l0 (k + 1) y0 y1 y2))
 | 0 => fun _ _ _ r h => by simp [graftwoodref17_Pick.l0] at h
 | k + 1 => by
  have ih0 := graftwoodref17_Pick.mono_l k
  ·intro y0 y1 y2
   unfold graftwoodref17_Pick.l0
   repeat' first | (with_reducible first | apply ih0 | apply LeO.refl | apply LeO.none | apply LeO.ite | refine LeO.bind ?_ (fun _ => ?_)) | apply ih0 | exact LeO.none _ | refine LeO.ite ?_ ?_ | refine LeO.bind ?_ (fun _ => ?_)
theorem graftwoodref17_Pick.mono : ∀ a0 a1 k, LeO (graftwoodref17_Pick.f k a0 a1) (graftwoodref17_Pick.f (k + 1) a0 a1) := by
 intro a0 a1 k
 have ih0 := graftwoodref17_Pick.mono_l k
 unfold graftwoodref17_Pick.f
 repeat' first | (with_reducible first | apply ih0 | apply LeO.refl | apply LeO.none | apply LeO.ite | refine LeO.bind ?_ (fun _ => ?_)) | apply ih0 | exact LeO.none _ | refine LeO.ite ?_ ?_ | refine LeO.bind ?_ (fun _ => ?_)
theorem graftwoodref17_Pick.calls (k : Nat) (A0 : Option Addr) (c0 : Nat) (l0 : List (S55)) (a1 : ByteArray) (r : ByteArray) (w : World) (hr0 : Kd.C k55 w A0 l0.length l0) (hc0 : l0.length ≤ c0) (h : graftwoodref17_Pick.f k l0 a1 = some r) :
  Calls Tryz.prog 19 #[.slice A0 l0.length c0, .string a1] w fun e w' => e = .returned (.string r) ∧ Drawn0 w w' := by
 have HR0 := Aside0.mk hr0
 have HC0 := Aside0.mk hc0
 clear hr0 hc0
 unfold graftwoodref17_Pick.f at h; have H := h; clear h
 have H' := Aside0.mk H
 clear H
 go_enter Tryz.func19, Tryz.ntmps19
 go_wp2
 go_loopg [5] k (fun kq v5 w' => ∃ (ab : Int), v5 = .int .i64 ab ∧ Aside0 (graftwoodref17_Pick.l0 kq l0 a1 ab = some r) ∧ Aside0 (kq ≤ k) ∧ Drawn0 w w')
 case atStart => exact ⟨(0), rfG, H', ⟨Nat.le_refl _⟩, rfD⟩
 case round =>
  clear H'
  obtain ⟨ab, rfl, HA, HK1, ⟨m1, rfl⟩⟩ := hrel
  cases gk with
  | zero => exact absurd HA.out (by simp [graftwoodref17_Pick.l0])
  | succ k1 =>
   have H := HA.out
   clear HA
   simp only [graftwoodref17_Pick.l0] at H
   replace H := ifP H; rcases H with ⟨c3, H⟩ | ⟨c3, H⟩
   ·have a5 := decide_eq_true c3
    clear c3
    replace H := ifN H; obtain ⟨c4, H⟩ := H
    have aK := decide_eq_true c4
    clear c4
    replace H := ifP H; rcases H with ⟨c5, H⟩ | ⟨c5, H⟩
    ·have aM := beq_iff_eq.mpr c5
     have bj := bne_eq_false_iff_eq.mpr c5
     clear c5
     obtain rfl := smI H
     have p425 : 0 ≤ (ab : Int) := of_decide_eq_true rfA
     have q425 : ab < (l0.length : Int) := of_decide_eq_true rfA
     obtain ⟨ad425, e425, aN, aQ⟩ := at_T55 HR0.out ab p425 q425
     cases e425
     replace p425 := eq_true p425
     replace q425 := eq_true q425
     have p426 : 0 ≤ (ab : Int) := of_decide_eq_true rfA
     have q426 : ab < (l0.length : Int) := of_decide_eq_true rfA
     obtain ⟨ad426, e426, bh, bi⟩ := at_T55 HR0.out ab p426 q426
     obtain rfl : ad425 = ad426 := (by injection e426)
     replace p426 := eq_true p426
     replace q426 := eq_true q426
     go_wp2
     go_ret
     exact ⟨rfG, rfD⟩
    ·have aM := beq_eq_false_iff_ne.mpr c5
     have bj := bne_iff_ne.mpr c5
     have H' := Aside0.mk H
     clear H
     have p425 : 0 ≤ (ab : Int) := of_decide_eq_true rfA
     have q425 : ab < (l0.length : Int) := of_decide_eq_true rfA
     obtain ⟨ad425, e425, aN, aQ⟩ := at_T55 HR0.out ab p425 q425
     cases e425
     replace p425 := eq_true p425
     replace q425 := eq_true q425
     go_wp2
     go_roundg k1
     case measure => have := HK1.out; omega
     case rel => exact ⟨(wrap64 (ab + 1)), rfG, H', ⟨by have := HK1.out; omega⟩, rfD⟩
   ·have a5 := decide_eq_false c3
    clear c3
    obtain rfl := smI H
    go_wp2
    go_ret
    exact ⟨rfG, rfD⟩

/-! ### graftwoodref05_Has: function 78 -/
def graftwoodref05_Has.l0 : Nat → List (S55) → Int → ByteArray → ByteArray → Option (Bool)
 | 0, _, _, _, _ => none
 | k + 1, x0, x5, aI, aJ => if x5 < (x0.length : Int) then (if 0 ≤ x5 then (if ((((rd_T55 x0 x5).f0).toList) == aI.toList && ((((rd_T55 x0 x5).f1).toList) == aJ.toList)) = true then (some true) else (graftwoodref05_Has.l0 k x0 (wrap64 (x5 + 1)) aI aJ)) else (none)) else (some false)
def graftwoodref05_Has.f (k : Nat) (l0 : List (S55)) (a1_0 : ByteArray) (a1_1 : ByteArray) : Option (Bool) := graftwoodref05_Has.l0 k l0 0 a1_0 a1_1
theorem graftwoodref05_Has.mono_l : ∀ k, (∀ y0 y1 y2 y3, LeO (graftwoodref05_Has.l0 k y0 y1 y2 y3) (graftwoodref05_Has.l0 (k + 1) y0 y1 y2 y3))
 | 0 => fun _ _ _ _ r h => by simp [graftwoodref05_Has.l0] at h
 | k + 1 => by
  have ih0 := graftwoodref05_Has.mono_l k
  ·intro y0 y1 y2 y3
   unfold graftwoodref05_Has.l0
   repeat' first | (with_reducible first | apply ih0 | apply LeO.refl | apply LeO.none | apply LeO.ite | refine LeO.bind ?_ (fun _ => ?_)) | apply ih0 | exact LeO.none _ | refine LeO.ite ?_ ?_ | refine LeO.bind ?_ (fun _ => ?_)
theorem graftwoodref05_Has.mono : ∀ a0 a1 a2 k, LeO (graftwoodref05_Has.f k a0 a1 a2) (graftwoodref05_Has.f (k + 1) a0 a1 a2) := by
 intro a0 a1 a2 k
 have ih0 := graftwoodref05_Has.mono_l k
 unfold graftwoodref05_Has.f
 repeat' first | (with_reducible first | apply ih0 | apply LeO.refl | apply LeO.none | apply LeO.ite | refine LeO.bind ?_ (fun _ => ?_)) | apply ih0 | exact LeO.none _ | refine LeO.ite ?_ ?_ | refine LeO.bind ?_ (fun _ => ?_)
theorem graftwoodref05_Has.calls (k : Nat) (A0 : Option Addr) (c0 : Nat) (l0 : List (S55)) (a1_0 : ByteArray) (a1_1 : ByteArray) (r : Bool) (w : World) (hr0 : Kd.C k55 w A0 l0.length l0) (hc0 : l0.length ≤ c0) (h : graftwoodref05_Has.f k l0 a1_0 a1_1 = some r) :
  Calls Tryz.prog 78 #[.slice A0 l0.length c0, .agg #[.string a1_0, .string a1_1]] w fun e w' => e = .returned (.bool r) ∧ Below w.heap.size w w' := by
 have hu55 := Tryz.underlying55
 have HR0 := Aside0.mk hr0
 have HC0 := Aside0.mk hc0
 clear hr0 hc0
 have HB := am (Below.refl w.heap.size w)
 unfold graftwoodref05_Has.f at h; have H := h; clear h
 have H' := Aside0.mk H
 clear H
 go_enter Tryz.func78, Tryz.ntmps78
 go_wp2_with (first | ((with_reducible refine gtD 3 ?_); refine xBx 3 55 #[.string a1_0, .string a1_1] ?_; intro ax hg w3 hbox hb; have an := am (hbox); have a3 := am ((gTx hg HB.out)); have a4 := am ((gTx hg HB.out)); replace HB := am (sTx HB.out hb); clear hb hbox hg))
 repeat (go_quiet (first | ((with_reducible refine gtD 3 ?_); refine xBx 3 55 #[.string a1_0, .string a1_1] ?_; intro ax hg w3 hbox hb; have an := am (hbox); have a3 := am ((gTx hg HB.out)); have a4 := am ((gTx hg HB.out)); replace HB := am (sTx HB.out hb); clear hb hbox hg)); try go_wp2_with (first | ((with_reducible refine gtD 3 ?_); refine xBx 3 55 #[.string a1_0, .string a1_1] ?_; intro ax hg w3 hbox hb; have an := am (hbox); have a3 := am ((gTx hg HB.out)); have a4 := am ((gTx hg HB.out)); replace HB := am (sTx HB.out hb); clear hb hbox hg)))
 go_loopg [5] k (fun kq v5 w' => ∃ (ab : Int), v5 = .int .i64 ab ∧ Aside0 (graftwoodref05_Has.l0 kq l0 ab a1_0 a1_1 = some r) ∧ Aside0 (kq ≤ k) ∧ Aside0 (w'.heap[ax]? = some (.cells #[.string a1_0, .string a1_1] 55 (0, 0))) ∧ Aside0 (Below w.heap.size w w'))
 case atStart => exact ⟨(0), rfG, H', ⟨Nat.le_refl _⟩, ⟨bT an.out⟩, ⟨eTx HB.out⟩⟩
 case round =>
  clear H'
  obtain ⟨ab, rfl, HA, HK1, an, HB⟩ := hrel
  cases gk with
  | zero => exact absurd HA.out (by simp [graftwoodref05_Has.l0])
  | succ k1 =>
   have H := HA.out
   clear HA
   simp only [graftwoodref05_Has.l0] at H
   replace H := ifP H; rcases H with ⟨c4, H⟩ | ⟨c4, H⟩
   ·have aK := decide_eq_true c4
    clear c4
    replace H := ifN H; obtain ⟨c5, H⟩ := H
    have aM := decide_eq_true c5
    clear c5
    replace H := ifP H; rcases H with ⟨c6, H⟩ | ⟨c6, H⟩
    ·have bk := c6
     (try (have bl : decide ((((rd_T55 l0 ab).f0).toList) = a1_0.toList && ((((rd_T55 l0 ab).f1).toList) == a1_1.toList)) = true := by simpa using c6))
     (try (have bm : ((((rd_T55 l0 ab).f0).toList) == a1_0.toList && ((((rd_T55 l0 ab).f1).toList) == a1_1.toList)) = true := by simpa using c6))
     clear c6
     obtain rfl := smI H
     have p428 : 0 ≤ (ab : Int) := of_decide_eq_true rfA
     have q428 : ab < (l0.length : Int) := of_decide_eq_true rfA
     obtain ⟨ad428, e428, ao, ap⟩ := at_T55 HR0.out ab p428 q428
     cases e428
     replace ao := (HB.out.cell (World.block_lt_of_cell? w _ ao)).trans ao
     replace ap := (HB.out.cell (World.block_lt_of_cell? w _ ap)).trans ap
     replace p428 := eq_true p428
     replace q428 := eq_true q428
     obtain ⟨bo, bp, bq, br⟩ := bxB an
     go_wp2
     repeat (go_quiet (fail); try go_wp2)
     go_ret
     exact ⟨rfF, eTx HB.out⟩
    ·have bk := Bool.eq_false_iff.mpr c6
     (try (have bl : decide ((((rd_T55 l0 ab).f0).toList) = a1_0.toList && ((((rd_T55 l0 ab).f1).toList) == a1_1.toList)) = false := by simpa using c6))
     (try (have bm : ((((rd_T55 l0 ab).f0).toList) == a1_0.toList && ((((rd_T55 l0 ab).f1).toList) == a1_1.toList)) = false := by simpa using c6))
     (try (have bC : ¬ ((((rd_T55 l0 ab).f0).toList) = a1_0.toList && ((((rd_T55 l0 ab).f1).toList) == a1_1.toList)) := by simpa using c6))
     clear c6
     have H' := Aside0.mk H
     clear H
     have p428 : 0 ≤ (ab : Int) := of_decide_eq_true rfA
     have q428 : ab < (l0.length : Int) := of_decide_eq_true rfA
     obtain ⟨ad428, e428, ao, ap⟩ := at_T55 HR0.out ab p428 q428
     cases e428
     replace ao := (HB.out.cell (World.block_lt_of_cell? w _ ao)).trans ao
     replace ap := (HB.out.cell (World.block_lt_of_cell? w _ ap)).trans ap
     replace p428 := eq_true p428
     replace q428 := eq_true q428
     obtain ⟨bs, bt, bu, bv⟩ := bxB an
     go_wp2
     repeat (go_quiet (fail); try go_wp2)
     go_roundg k1
     case measure => have := HK1.out; omega
     case rel => exact ⟨(wrap64 (ab + 1)), rfG, H', ⟨by have := HK1.out; omega⟩, ⟨bT an.out⟩, ⟨eTx HB.out⟩⟩
   ·have aK := decide_eq_false c4
    clear c4
    obtain rfl := smI H
    go_wp2
    repeat (go_quiet (fail); try go_wp2)
    go_ret
    exact ⟨rfF, eTx HB.out⟩

/-! ### graftwoodref05_Minus: function 48 -/
def graftwoodref05_Minus.l0 : Nat → List (S55) → List (S55) → List (S55) → Int → Option ((List (S55)))
 | 0, _, _, _, _ => none
 | k + 1, x0, x1, x5, x6 => if x6 < (x0.length : Int) then (if 0 ≤ x6 then ((graftwoodref05_Has.f k x1 ((rd_T55 x0 x6).f0) ((rd_T55 x0 x6).f1)).bind fun aR => (if aR = true then (graftwoodref05_Minus.l0 k x0 x1 x5 (wrap64 (x6 + 1))) else (if x5.length < 4398046511104 then (graftwoodref05_Minus.l0 k x0 x1 (x5 ++ [(⟨(rd_T55 x0 x6).f0, (rd_T55 x0 x6).f1⟩ : S55)]) (wrap64 (x6 + 1))) else (none)))) else (none)) else (some x5)
def graftwoodref05_Minus.f (k : Nat) (l0 : List (S55)) (l1 : List (S55)) : Option ((List (S55))) := graftwoodref05_Minus.l0 k l0 l1 ([] : List (S55)) 0
theorem graftwoodref05_Minus.mono_l : ∀ k, (∀ y0 y1 y2 y3, LeO (graftwoodref05_Minus.l0 k y0 y1 y2 y3) (graftwoodref05_Minus.l0 (k + 1) y0 y1 y2 y3))
 | 0 => fun _ _ _ _ r h => by simp [graftwoodref05_Minus.l0] at h
 | k + 1 => by
  have ih0 := graftwoodref05_Minus.mono_l k
  ·intro y0 y1 y2 y3
   unfold graftwoodref05_Minus.l0
   repeat' first | (with_reducible first | apply ih0 | apply graftwoodref05_Has.mono | apply LeO.refl | apply LeO.none | apply LeO.ite | refine LeO.bind ?_ (fun _ => ?_)) | apply ih0 | apply graftwoodref05_Has.mono | exact LeO.none _ | refine LeO.ite ?_ ?_ | refine LeO.bind ?_ (fun _ => ?_)
theorem graftwoodref05_Minus.mono : ∀ a0 a1 k, LeO (graftwoodref05_Minus.f k a0 a1) (graftwoodref05_Minus.f (k + 1) a0 a1) := by
 intro a0 a1 k
 have ih0 := graftwoodref05_Minus.mono_l k
 unfold graftwoodref05_Minus.f
 repeat' first | (with_reducible first | apply ih0 | apply graftwoodref05_Has.mono | apply LeO.refl | apply LeO.none | apply LeO.ite | refine LeO.bind ?_ (fun _ => ?_)) | apply ih0 | apply graftwoodref05_Has.mono | exact LeO.none _ | refine LeO.ite ?_ ?_ | refine LeO.bind ?_ (fun _ => ?_)
theorem graftwoodref05_Minus.calls (k : Nat) (A0 : Option Addr) (c0 : Nat) (l0 : List (S55)) (A1 : Option Addr) (c1 : Nat) (l1 : List (S55)) (r : List (S55)) (w : World) (hr0 : Kd.C k55 w A0 l0.length l0) (hc0 : l0.length ≤ c0) (hr1 : Kd.C k55 w A1 l1.length l1) (hc1 : l1.length ≤ c1) (h : graftwoodref05_Minus.f k l0 l1 = some r) :
  Calls Tryz.prog 48 #[.slice A0 l0.length c0, .slice A1 l1.length c1] w fun e w' => ∃ v0_ : Value, e = .returned (v0_) ∧ Kd.R k55 55 w' w.heap.size (fun _ => True) v0_ r ∧ Below w.heap.size w w' := by
 have hu55 := Tryz.underlying55
 have HR0 := Aside0.mk hr0
 have HC0 := Aside0.mk hc0
 clear hr0 hc0
 have HR1 := Aside0.mk hr1
 have HC1 := Aside0.mk hc1
 clear hr1 hc1
 have HB := am (Below.refl w.heap.size w)
 unfold graftwoodref05_Minus.f at h; have H := h; clear h
 have H' := Aside0.mk H
 clear H
 go_enter Tryz.func48, Tryz.ntmps48
 go_wp2
 go_loopg [5, 6] k (fun kq v5 v6 w' => ∃ (ab : List (S55)) (aa : Int), v6 = .int .i64 aa ∧ Aside0 (graftwoodref05_Minus.l0 kq l0 l1 ab aa = some r) ∧ Aside0 (kq ≤ k) ∧ Aside0 (Kd.R k55 55 w' w.heap.size (fun _ => True) v5 ab) ∧ Aside0 (Below w.heap.size w w'))
 case atStart => exact ⟨(([] : List (S55))), (0), rfG, H', ⟨Nat.le_refl _⟩, ⟨rfM⟩, ⟨eTx HB.out⟩⟩
 case round =>
  clear H'
  obtain ⟨ab, aa, rfl, HA, HK1, ae, HB⟩ := hrel
  cases gk with
  | zero => exact absurd HA.out (by simp [graftwoodref05_Minus.l0])
  | succ k1 =>
   have H := HA.out
   clear HA
   simp only [graftwoodref05_Minus.l0] at H
   replace H := ifP H; rcases H with ⟨c3, H⟩ | ⟨c3, H⟩
   ·have a5 := decide_eq_true c3
    clear c3
    replace H := ifN H; obtain ⟨c4, H⟩ := H
    have aK := decide_eq_true c4
    clear c4
    replace H := bnd H; obtain ⟨aR, A5, H⟩ := H
    replace H := ifB H; rcases H with ⟨rfl, H⟩ | ⟨rfl, H⟩
    ·have H' := Aside0.mk H
     clear H
     have p429 : 0 ≤ (aa : Int) := of_decide_eq_true rfA
     have q429 : aa < (l0.length : Int) := of_decide_eq_true rfA
     obtain ⟨ad429, e429, aq, ar⟩ := at_T55 HR0.out aa p429 q429
     cases e429
     replace aq := (HB.out.cell (World.block_lt_of_cell? w _ aq)).trans aq
     replace ar := (HB.out.cell (World.block_lt_of_cell? w _ ar)).trans ar
     replace p429 := eq_true p429
     replace q429 := eq_true q429
     go_wp2_with (first | ((with_reducible refine gtC 78 ?_); refine xCb 18 Tryz.func78 (graftwoodref05_Has.calls k1 _ _ l1 ((rd_T55 l0 aa).f0) ((rd_T55 l0 aa).f1) true _ (cW (Kd.C_below HR1.out HB.out)) HC1.out A5.out) fun w7 hb => ?_; replace ae := am (rB ae.out hb); replace HB := am (sTx HB.out hb)))
     go_roundg k1
     case measure => have := HK1.out; omega
     case rel => exact ⟨(ab), (wrap64 (aa + 1)), rfG, H', ⟨by have := HK1.out; omega⟩, ⟨rT ae.out⟩, ⟨eTx HB.out⟩⟩
    ·replace H := ifN H; obtain ⟨c8, H⟩ := H
     have LMc8 := Aside0.mk c8
     clear c8
     obtain ⟨a6, aD⟩ : ∃ y_ : List (S55), y_ = (ab ++ [(⟨(rd_T55 l0 aa).f0, (rd_T55 l0 aa).f1⟩ : S55)]) := ⟨_, rfl⟩
     replace H : (graftwoodref05_Minus.l0 k1 l0 l1 a6 (wrap64 (aa + 1))) = some r := by first | (rw [aD]; with_reducible exact H) | (have H2_ := (Option.bind_some _ _).symm.trans H; rw [aD]; with_reducible exact H2_) | (have H2_ := (Option.bind_some _ _).symm.trans H; with_reducible exact H2_) | with_reducible exact H | (rw [aD]; exact H) | exact H
     have Ny432 := Aside0.mk aD
     clear aD
     have H' := Aside0.mk H
     clear H
     have p429 : 0 ≤ (aa : Int) := of_decide_eq_true rfA
     have q429 : aa < (l0.length : Int) := of_decide_eq_true rfA
     obtain ⟨ad429, e429, aq, ar⟩ := at_T55 HR0.out aa p429 q429
     cases e429
     replace aq := (HB.out.cell (World.block_lt_of_cell? w _ aq)).trans aq
     replace ar := (HB.out.cell (World.block_lt_of_cell? w _ ar)).trans ar
     replace p429 := eq_true p429
     replace q429 := eq_true q429
     go_wp2_with (first | ((with_reducible refine gtC 78 ?_); refine xCb 18 Tryz.func78 (graftwoodref05_Has.calls k1 _ _ l1 ((rd_T55 l0 aa).f0) ((rd_T55 l0 aa).f1) false _ (cW (Kd.C_below HR1.out HB.out)) HC1.out A5.out) fun w9 hb => ?_; replace ae := am (rB ae.out hb); replace HB := am (sTx HB.out hb); have p431 : 0 ≤ (aa : Int) := of_decide_eq_true rfA; have q431 : aa < (l0.length : Int) := of_decide_eq_true rfA; obtain ⟨ad431, e431, ay, az⟩ := at_T55 HR0.out aa p431 q431; obtain rfl : ad429 = ad431 := (by injection e431); replace ay := (HB.out.cell (World.block_lt_of_cell? w _ ay)).trans ay; replace az := (HB.out.cell (World.block_lt_of_cell? w _ az)).trans az; replace p431 := eq_true p431; replace q431 := eq_true q431) | ((with_reducible refine gate_builtin (b := .append) (xs := #[.tmp 20, .tmp 25]) rfl ?_); at_builtin; refine Kd.R_append k55 (w0 := w) w.heap.size rfl (.tmp 20) (.tmp 25) 22 55 (.agg #[(.string ⟨#[]⟩), (.string ⟨#[]⟩)]) 32 rfl Tryz.underlying22 info55 rfl (by decide) (by omega) u5 ab (⟨(rd_T55 l0 aa).f0, (rd_T55 l0 aa).f1⟩ : S55) [.string ((rd_T55 l0 aa).f0), .string ((rd_T55 l0 aa).f1)] (fun _ => True) (fun _ => False) rfl rfl ?aP (fun _ hk => hk.elim) ?aF ?aO ?aB ?aS ?aL ?_; (case aP => exact k55_mkM _ _ _ (⟨(rd_T55 l0 aa).f0, (rd_T55 l0 aa).f1⟩ : S55)); (case aB => exact (eTx HB.out)); (case aF => exact (fun _ _ => trivial)); (case aO => exact (rT ae.out)); (case aS => exact (below_size (eTx HB.out))); (case aL => have := LMc8.out; omega); intro bD w10 ho hb hg hat; rw [← Ny432.out] at ho; replace HB := am (hb); have a7 := am (ho); clear ae ho hb hg hat))
     go_roundg k1
     case measure => have := HK1.out; omega
     case rel => exact ⟨(a6), (wrap64 (aa + 1)), rfG, H', ⟨by have := HK1.out; omega⟩, ⟨rT a7.out⟩, ⟨eTx HB.out⟩⟩
   ·have a5 := decide_eq_false c3
    clear c3
    obtain rfl := smI H
    go_wp2
    go_ret
    exact ⟨_, rfF, by (with_reducible repeat (first | apply Kd.R_alloc | apply Kd.R_drewN | apply Kd.R_drew)); exact ae.out, eTx HB.out⟩

/-! ### graftwoodref05_With: function 49 -/
mutual
def graftwoodref05_With.l0 : Nat → List (S55) → List (S55) → Int → ByteArray → ByteArray → Option ((List (S55)))
 | 0, _, _, _, _, _ => none
 | k + 1, x0, x5, x6, ak, al => if x6 < (x0.length : Int) then (if 0 ≤ x6 then ((graftwoodref05_Less.f k ((rd_T55 x0 x6).f0) ((rd_T55 x0 x6).f1) ak al).bind fun aU => (if aU = true then (if x5.length < 4398046511104 then (graftwoodref05_With.l0 k x0 (x5 ++ [(⟨(rd_T55 x0 x6).f0, (rd_T55 x0 x6).f1⟩ : S55)]) (wrap64 (x6 + 1)) ak al) else (none)) else (graftwoodref05_With.l0 k x0 x5 (wrap64 (x6 + 1)) ak al))) else (none)) else (if x5.length < 4398046511104 then (graftwoodref05_With.l1 k x0 (x5 ++ [(⟨ak, al⟩ : S55)]) 0 ak al) else (none))
def graftwoodref05_With.l1 : Nat → List (S55) → List (S55) → Int → ByteArray → ByteArray → Option ((List (S55)))
 | 0, _, _, _, _, _ => none
 | k + 1, x0, x5, x7, ak, al => if x7 < (x0.length : Int) then (if 0 ≤ x7 then ((graftwoodref05_Less.f k ak al ((rd_T55 x0 x7).f0) ((rd_T55 x0 x7).f1)).bind fun aV => (if aV = true then (if x5.length < 4398046511104 then (graftwoodref05_With.l1 k x0 (x5 ++ [(⟨(rd_T55 x0 x7).f0, (rd_T55 x0 x7).f1⟩ : S55)]) (wrap64 (x7 + 1)) ak al) else (none)) else (graftwoodref05_With.l1 k x0 x5 (wrap64 (x7 + 1)) ak al))) else (none)) else (some x5)
end
def graftwoodref05_With.f (k : Nat) (l0 : List (S55)) (a1_0 : ByteArray) (a1_1 : ByteArray) : Option ((List (S55))) := graftwoodref05_With.l0 k l0 ([] : List (S55)) 0 a1_0 a1_1
theorem graftwoodref05_With.mono_l : ∀ k, (∀ y0 y1 y2 y3 y4, LeO (graftwoodref05_With.l0 k y0 y1 y2 y3 y4) (graftwoodref05_With.l0 (k + 1) y0 y1 y2 y3 y4)) ∧ (∀ y0 y1 y2 y3 y4, LeO (graftwoodref05_With.l1 k y0 y1 y2 y3 y4) (graftwoodref05_With.l1 (k + 1) y0 y1 y2 y3 y4))
 | 0 => ⟨fun _ _ _ _ _ r h => by simp [graftwoodref05_With.l0] at h, fun _ _ _ _ _ r h => by simp [graftwoodref05_With.l1] at h⟩
 | k + 1 => by
  obtain ⟨ih0, ih1⟩ := graftwoodref05_With.mono_l k
  refine ⟨?_, ?_⟩
  ·intro y0 y1 y2 y3 y4
   unfold graftwoodref05_With.l0
   repeat' first | (with_reducible first | apply ih0 | apply ih1 | apply graftwoodref05_Less.mono | apply LeO.refl | apply LeO.none | apply LeO.ite | refine LeO.bind ?_ (fun _ => ?_)) | apply ih0 | apply ih1 | apply graftwoodref05_Less.mono | exact LeO.none _ | refine LeO.ite ?_ ?_ | refine LeO.bind ?_ (fun _ => ?_)
  ·intro y0 y1 y2 y3 y4
   unfold graftwoodref05_With.l1
   repeat' first | (with_reducible first | apply ih0 | apply ih1 | apply graftwoodref05_Less.mono | apply LeO.refl | apply LeO.none | apply LeO.ite | refine LeO.bind ?_ (fun _ => ?_)) | apply ih0 | apply ih1 | apply graftwoodref05_Less.mono | exact LeO.none _ | refine LeO.ite ?_ ?_ | refine LeO.bind ?_ (fun _ => ?_)
theorem graftwoodref05_With.mono : ∀ a0 a1 a2 k, LeO (graftwoodref05_With.f k a0 a1 a2) (graftwoodref05_With.f (k + 1) a0 a1 a2) := by
 intro a0 a1 a2 k
 obtain ⟨ih0, ih1⟩ := graftwoodref05_With.mono_l k
 unfold graftwoodref05_With.f
 repeat' first | (with_reducible first | apply ih0 | apply ih1 | apply graftwoodref05_Less.mono | apply LeO.refl | apply LeO.none | apply LeO.ite | refine LeO.bind ?_ (fun _ => ?_)) | apply ih0 | apply ih1 | apply graftwoodref05_Less.mono | exact LeO.none _ | refine LeO.ite ?_ ?_ | refine LeO.bind ?_ (fun _ => ?_)
theorem graftwoodref05_With.calls (k : Nat) (A0 : Option Addr) (c0 : Nat) (l0 : List (S55)) (a1_0 : ByteArray) (a1_1 : ByteArray) (r : List (S55)) (w : World) (hr0 : Kd.C k55 w A0 l0.length l0) (hc0 : l0.length ≤ c0) (h : graftwoodref05_With.f k l0 a1_0 a1_1 = some r) :
  Calls Tryz.prog 49 #[.slice A0 l0.length c0, .agg #[.string a1_0, .string a1_1]] w fun e w' => ∃ v0_ : Value, e = .returned (v0_) ∧ Kd.R k55 55 w' w.heap.size (fun _ => True) v0_ r ∧ Below w.heap.size w w' := by
 have hu55 := Tryz.underlying55
 have HR0 := Aside0.mk hr0
 have HC0 := Aside0.mk hc0
 clear hr0 hc0
 have HB := am (Below.refl w.heap.size w)
 unfold graftwoodref05_With.f at h; have H := h; clear h
 have H' := Aside0.mk H
 clear H
 go_enter Tryz.func49, Tryz.ntmps49
 go_wp2_with (first | ((with_reducible refine gtD 3 ?_); refine xBx 3 55 #[.string a1_0, .string a1_1] ?_; intro af hg w3 hbox hb; have ac := am (hbox); have bw := am ((gTx hg HB.out)); have bx := am ((gTx hg HB.out)); replace HB := am (sTx HB.out hb); clear hb hbox hg))
 go_loopg [5, 6] k (fun kq v5 v6 w' => ∃ (ab : List (S55)) (aa : Int), v6 = .int .i64 aa ∧ Aside0 (graftwoodref05_With.l0 kq l0 ab aa a1_0 a1_1 = some r) ∧ Aside0 (kq ≤ k) ∧ Aside0 (Kd.R k55 55 w' w.heap.size (fun k_ => k_ ≠ af) v5 ab) ∧ Aside0 (w'.heap[af]? = some (.cells #[.string a1_0, .string a1_1] 55 (0, 0))) ∧ Aside0 (Below w.heap.size w w'))
 case atStart => exact ⟨(([] : List (S55))), (0), rfG, H', ⟨Nat.le_refl _⟩, ⟨rfM⟩, ⟨bT ac.out⟩, ⟨eTx HB.out⟩⟩
 case round =>
  clear H'
  obtain ⟨ab, aa, rfl, HA, HK1, ae, ac, HB⟩ := hrel
  cases gk with
  | zero => exact absurd HA.out (by simp [graftwoodref05_With.l0])
  | succ k1 =>
   have H := HA.out
   clear HA
   simp only [graftwoodref05_With.l0] at H
   replace H := ifP H; rcases H with ⟨c4, H⟩ | ⟨c4, H⟩
   ·have aK := decide_eq_true c4
    clear c4
    replace H := ifN H; obtain ⟨c5, H⟩ := H
    have aM := decide_eq_true c5
    clear c5
    replace H := bnd H; obtain ⟨aU, A6, H⟩ := H
    replace H := ifB H; rcases H with ⟨rfl, H⟩ | ⟨rfl, H⟩
    ·replace H := ifN H; obtain ⟨c8, H⟩ := H
     have LMc8 := Aside0.mk c8
     clear c8
     obtain ⟨a8, aE⟩ : ∃ y_ : List (S55), y_ = (ab ++ [(⟨(rd_T55 l0 aa).f0, (rd_T55 l0 aa).f1⟩ : S55)]) := ⟨_, rfl⟩
     replace H : (graftwoodref05_With.l0 k1 l0 a8 (wrap64 (aa + 1)) a1_0 a1_1) = some r := by first | (rw [aE]; with_reducible exact H) | (have H2_ := (Option.bind_some _ _).symm.trans H; rw [aE]; with_reducible exact H2_) | (have H2_ := (Option.bind_some _ _).symm.trans H; with_reducible exact H2_) | with_reducible exact H | (rw [aE]; exact H) | exact H
     have Ny439 := Aside0.mk aE
     clear aE
     have H' := Aside0.mk H
     clear H
     try go_wp2
     replace ae := am (Kd.R_drew ae.out)
     replace ac := am (blk_drew ac.out)
     replace HB := am (below_drew1 HB.out)
     have p436 : 0 ≤ (aa : Int) := of_decide_eq_true rfA
     have q436 : aa < (l0.length : Int) := of_decide_eq_true rfA
     obtain ⟨ad436, e436, ag, ah⟩ := at_T55 HR0.out aa p436 q436
     have hw436_1 := ah
     have hw436_0 := ag
     cases e436
     replace ag := (HB.out.cell (World.block_lt_of_cell? w _ ag)).trans ag
     replace ah := (HB.out.cell (World.block_lt_of_cell? w _ ah)).trans ah
     replace p436 := eq_true p436
     replace q436 := eq_true q436
     refine start_ (n := 6) (S := fun w' => w'.cell? ⟨af, 0, none⟩ = some (.string a1_0) ∧ w'.cell? ⟨af, 1, none⟩ = some (.string a1_1) ∧ w'.cell? (ad436.add ((aa).toNat * 2)) = some (.string ((rd_T55 l0 aa).f0)) ∧ w'.cell? ⟨(ad436.add ((aa).toNat * 2)).block, (ad436.add ((aa).toNat * 2)).off + 1, none⟩ = some (.string ((rd_T55 l0 aa).f1))) (ds := []) (bA 6 0) rfK rfl rfK ⟨cT ac 0, cT ac 1, ((HB.out.cell (World.block_lt_of_cell? w _ hw436_0)).trans hw436_0), ((HB.out.cell (World.block_lt_of_cell? w _ hw436_1)).trans hw436_1)⟩ (fun hHeld => ?_)
     generalize wr.drew = w9 at ae ac HB ag ah hHeld ⊢
     refine pure_ (i := 0) (N := some 14) (v := ?_) (a' := ?_) (bA 6 1) rfl rfl rfK (fun _ _ _ h => h) (Or.inl ⟨by rfl, ?_⟩) ?_ ?_
     rotate_left
     ·intro w'
      go_simp
      with_reducible rfl
     rotate_left
     ·simp only [pS]
      rfl
     refine pure_ (i := 1) (N := some 15) (v := ?_) (a' := ?_) (bA 6 3) rfl rfl rfK (fun _ _ _ h => h) (Or.inl ⟨by rfl, ?_⟩) ?_ ?_
     rotate_left
     ·intro w'
      go_simp
      with_reducible rfl
     rotate_left
     ·simp only [pS]
      rfl
     refine pure_ (i := 2) (N := some 16) (v := ?_) (a' := ?_) (bA 6 7) rfl rfl rfK (fun _ _ _ h => h) (Or.inl ⟨by rfl, ?_⟩) ?_ ?_
     rotate_left
     ·intro w'
      go_simp
      with_reducible rfl
     rotate_left
     ·simp only [pS]
      rfl
     refine take_ (i := 3) (N := some 17) (v := ?_) (a' := ?_) (bA 6 15) rfl rfl rfK (fun _ _ _ h => h) (Or.inl ⟨by rfl, ?_⟩) hHeld ?_ ?_
     rotate_left
     ·rintro w' ⟨s0, s1, s2, s3⟩
      go_simp
      with_reducible rfl
     rotate_left
     ·simp only [pS]
      rfl
     refine take_ (i := 4) (N := some 18) (v := ?_) (a' := ?_) (bA 6 31) rfl rfl rfK (fun _ _ _ h => h) (Or.inl ⟨by rfl, ?_⟩) hHeld ?_ ?_
     rotate_left
     ·rintro w' ⟨s0, s1, s2, s3⟩
      go_simp
      with_reducible rfl
     rotate_left
     ·simp only [pS]
      rfl
     refine one_ (i := 5) (N := some 19) (bA 6 63) rfl rfl rfK (by decide) (fun K hK => ?_)
     refine gS Tryz.func62 #[.agg #[.string ((rd_T55 l0 aa).f0), .string ((rd_T55 l0 aa).f1)], .agg #[.string a1_0, .string a1_1]] ?_
     with_reducible refine (graftwoodref05_Less.calls k1 ((rd_T55 l0 aa).f0) ((rd_T55 l0 aa).f1) a1_0 a1_1 true _ A6.out).mono ?_
     rintro e w10 ⟨rfl, hb⟩
     refine ⟨_, rfl, ?_⟩
     replace ae := am (rB ae.out hb)
     replace ac := am (bB ac.out hb)
     replace HB := am (sTx HB.out hb)
     refine hK.out _ _ ⟨cT ac 0, cT ac 1, ((HB.out.cell (World.block_lt_of_cell? w _ hw436_0)).trans hw436_0), ((HB.out.cell (World.block_lt_of_cell? w _ hw436_1)).trans hw436_1)⟩ (fun hHeld => ?_)
     clear hK K
     refine mN _ ?_
     refine done_ rfK ?_
     have p438 : 0 ≤ (aa : Int) := of_decide_eq_true rfA
     have q438 : aa < (l0.length : Int) := of_decide_eq_true rfA
     obtain ⟨ad438, e438, av, aw⟩ := at_T55 HR0.out aa p438 q438
     obtain rfl : ad436 = ad438 := (by injection e438)
     replace av := (HB.out.cell (World.block_lt_of_cell? w _ av)).trans av
     replace aw := (HB.out.cell (World.block_lt_of_cell? w _ aw)).trans aw
     replace p438 := eq_true p438
     replace q438 := eq_true q438
     try go_wp2_with (first | ((with_reducible refine gate_builtin (b := .append) (xs := #[.tmp 20, .tmp 25]) rfl ?_); at_builtin; refine Kd.R_append k55 (w0 := w) w.heap.size rfl (.tmp 20) (.tmp 25) 22 55 (.agg #[(.string ⟨#[]⟩), (.string ⟨#[]⟩)]) 32 rfl Tryz.underlying22 info55 rfl (by decide) (by omega) u5 ab (⟨(rd_T55 l0 aa).f0, (rd_T55 l0 aa).f1⟩ : S55) [.string ((rd_T55 l0 aa).f0), .string ((rd_T55 l0 aa).f1)] (fun k_ => k_ ≠ af) (fun _ => False) rfl rfl ?aP (fun _ hk => hk.elim) ?aF ?aO ?aB ?aS ?aL ?_; (case aP => exact k55_mkM _ _ _ (⟨(rd_T55 l0 aa).f0, (rd_T55 l0 aa).f1⟩ : S55)); (case aB => exact (eTx HB.out)); (case aF => exact (fun k_ hk => Kd.freshB (g := af) (o := .cells #[.string a1_0, .string a1_1] 55 (0, 0)) (bT ac.out) k_ hk)); (case aO => exact (rT ae.out)); (case aS => exact (below_size (eTx HB.out))); (case aL => have := LMc8.out; omega); intro bE w11 ho hb hg hat; rw [← Ny439.out] at ho; replace ac := am (blk_grown (g := af) (o := .cells #[.string a1_0, .string a1_1] 55 (0, 0)) (bT ac.out) hg (Kd.R_away ae.out (fun _ hk => hk))); replace HB := am (hb); have a9 := am (ho); clear ae ho hb hg hat))
     go_roundg k1
     case measure => have := HK1.out; omega
     case rel => exact ⟨(a8), (wrap64 (aa + 1)), rfG, H', ⟨by have := HK1.out; omega⟩, ⟨rT a9.out⟩, ⟨bT ac.out⟩, ⟨eTx HB.out⟩⟩
    ·have H' := Aside0.mk H
     clear H
     try go_wp2
     replace ae := am (Kd.R_drew ae.out)
     replace ac := am (blk_drew ac.out)
     replace HB := am (below_drew1 HB.out)
     have p436 : 0 ≤ (aa : Int) := of_decide_eq_true rfA
     have q436 : aa < (l0.length : Int) := of_decide_eq_true rfA
     obtain ⟨ad436, e436, ag, ah⟩ := at_T55 HR0.out aa p436 q436
     have hw436_1 := ah
     have hw436_0 := ag
     cases e436
     replace ag := (HB.out.cell (World.block_lt_of_cell? w _ ag)).trans ag
     replace ah := (HB.out.cell (World.block_lt_of_cell? w _ ah)).trans ah
     replace p436 := eq_true p436
     replace q436 := eq_true q436
     refine start_ (n := 6) (S := fun w' => w'.cell? ⟨af, 0, none⟩ = some (.string a1_0) ∧ w'.cell? ⟨af, 1, none⟩ = some (.string a1_1) ∧ w'.cell? (ad436.add ((aa).toNat * 2)) = some (.string ((rd_T55 l0 aa).f0)) ∧ w'.cell? ⟨(ad436.add ((aa).toNat * 2)).block, (ad436.add ((aa).toNat * 2)).off + 1, none⟩ = some (.string ((rd_T55 l0 aa).f1))) (ds := []) (bA 6 0) rfK rfl rfK ⟨cT ac 0, cT ac 1, ((HB.out.cell (World.block_lt_of_cell? w _ hw436_0)).trans hw436_0), ((HB.out.cell (World.block_lt_of_cell? w _ hw436_1)).trans hw436_1)⟩ (fun hHeld => ?_)
     generalize wr.drew = w12 at ae ac HB ag ah hHeld ⊢
     refine pure_ (i := 0) (N := some 14) (v := ?_) (a' := ?_) (bA 6 1) rfl rfl rfK (fun _ _ _ h => h) (Or.inl ⟨by rfl, ?_⟩) ?_ ?_
     rotate_left
     ·intro w'
      go_simp
      with_reducible rfl
     rotate_left
     ·simp only [pS]
      rfl
     refine pure_ (i := 1) (N := some 15) (v := ?_) (a' := ?_) (bA 6 3) rfl rfl rfK (fun _ _ _ h => h) (Or.inl ⟨by rfl, ?_⟩) ?_ ?_
     rotate_left
     ·intro w'
      go_simp
      with_reducible rfl
     rotate_left
     ·simp only [pS]
      rfl
     refine pure_ (i := 2) (N := some 16) (v := ?_) (a' := ?_) (bA 6 7) rfl rfl rfK (fun _ _ _ h => h) (Or.inl ⟨by rfl, ?_⟩) ?_ ?_
     rotate_left
     ·intro w'
      go_simp
      with_reducible rfl
     rotate_left
     ·simp only [pS]
      rfl
     refine take_ (i := 3) (N := some 17) (v := ?_) (a' := ?_) (bA 6 15) rfl rfl rfK (fun _ _ _ h => h) (Or.inl ⟨by rfl, ?_⟩) hHeld ?_ ?_
     rotate_left
     ·rintro w' ⟨s0, s1, s2, s3⟩
      go_simp
      with_reducible rfl
     rotate_left
     ·simp only [pS]
      rfl
     refine take_ (i := 4) (N := some 18) (v := ?_) (a' := ?_) (bA 6 31) rfl rfl rfK (fun _ _ _ h => h) (Or.inl ⟨by rfl, ?_⟩) hHeld ?_ ?_
     rotate_left
     ·rintro w' ⟨s0, s1, s2, s3⟩
      go_simp
      with_reducible rfl
     rotate_left
     ·simp only [pS]
      rfl
     refine one_ (i := 5) (N := some 19) (bA 6 63) rfl rfl rfK (by decide) (fun K hK => ?_)
     refine gS Tryz.func62 #[.agg #[.string ((rd_T55 l0 aa).f0), .string ((rd_T55 l0 aa).f1)], .agg #[.string a1_0, .string a1_1]] ?_
     with_reducible refine (graftwoodref05_Less.calls k1 ((rd_T55 l0 aa).f0) ((rd_T55 l0 aa).f1) a1_0 a1_1 false _ A6.out).mono ?_
     rintro e w13 ⟨rfl, hb⟩
     refine ⟨_, rfl, ?_⟩
     replace ae := am (rB ae.out hb)
     replace ac := am (bB ac.out hb)
     replace HB := am (sTx HB.out hb)
     refine hK.out _ _ ⟨cT ac 0, cT ac 1, ((HB.out.cell (World.block_lt_of_cell? w _ hw436_0)).trans hw436_0), ((HB.out.cell (World.block_lt_of_cell? w _ hw436_1)).trans hw436_1)⟩ (fun hHeld => ?_)
     clear hK K
     refine mN _ ?_
     refine done_ rfK ?_
     try go_wp2
     go_roundg k1
     case measure => have := HK1.out; omega
     case rel => exact ⟨(ab), (wrap64 (aa + 1)), rfG, H', ⟨by have := HK1.out; omega⟩, ⟨rT ae.out⟩, ⟨bT ac.out⟩, ⟨eTx HB.out⟩⟩
   ·have aK := decide_eq_false c4
    clear c4
    replace H := ifP H; rcases H with ⟨c14, H⟩ | ⟨c14, H⟩
    ·have LMc14 := Aside0.mk c14
     clear c14
     obtain ⟨a_, aG⟩ : ∃ y_ : List (S55), y_ = (ab ++ [(⟨a1_0, a1_1⟩ : S55)]) := ⟨_, rfl⟩
     replace H : (graftwoodref05_With.l1 k1 l0 a_ 0 a1_0 a1_1) = some r := by first | (rw [aG]; with_reducible exact H) | (have H2_ := (Option.bind_some _ _).symm.trans H; rw [aG]; with_reducible exact H2_) | (have H2_ := (Option.bind_some _ _).symm.trans H; with_reducible exact H2_) | with_reducible exact H | (rw [aG]; exact H) | exact H
     have Ny442 := Aside0.mk aG
     clear aG
     have H' := Aside0.mk H
     clear H
     obtain ⟨aW, aX, aY, aZ⟩ := bxB ac
     go_wp2_with (first | ((with_reducible refine gate_builtin (b := .append) (xs := #[.tmp 27, .tmp 29]) rfl ?_); at_builtin; refine Kd.R_append k55 (w0 := w) w.heap.size rfl (.tmp 27) (.tmp 29) 22 55 (.agg #[(.string ⟨#[]⟩), (.string ⟨#[]⟩)]) 32 rfl Tryz.underlying22 info55 rfl (by decide) (by omega) u5 ab (⟨a1_0, a1_1⟩ : S55) [.string a1_0, .string a1_1] (fun k_ => k_ ≠ af) (fun _ => False) rfl rfl ?aP (fun _ hk => hk.elim) ?aF ?aO ?aB ?aS ?aL ?_; (case aP => exact k55_mkM _ _ _ (⟨a1_0, a1_1⟩ : S55)); (case aB => exact (eTx HB.out)); (case aF => exact (fun k_ hk => Kd.freshB (g := af) (o := .cells #[.string a1_0, .string a1_1] 55 (0, 0)) (bT ac.out) k_ hk)); (case aO => exact (rT ae.out)); (case aS => exact (below_size (eTx HB.out))); (case aL => have := LMc14.out; omega); intro bF w16 ho hb hg hat; rw [← Ny442.out] at ho; replace ac := am (blk_grown (g := af) (o := .cells #[.string a1_0, .string a1_1] 55 (0, 0)) (bT ac.out) hg (Kd.R_away ae.out (fun _ hk => hk))); replace HB := am (hb); have bb := am (ho); clear ae ho hb hg hat))
     go_loopg [5, 7] k1 (fun kq v5 v7 w' => ∃ (au : List (S55)) (ad : Int), v7 = .int .i64 ad ∧ Aside0 (graftwoodref05_With.l1 kq l0 au ad a1_0 a1_1 = some r) ∧ Aside0 (kq ≤ k1) ∧ Aside0 (Kd.R k55 55 w' w.heap.size (fun k_ => k_ ≠ af) v5 au) ∧ Aside0 (w'.heap[af]? = some (.cells #[.string a1_0, .string a1_1] 55 (0, 0))) ∧ Aside0 (Below w.heap.size w w'))
     case atStart => exact ⟨(a_), (0), rfG, H', ⟨Nat.le_refl _⟩, ⟨rT bb.out⟩, ⟨bT ac.out⟩, ⟨eTx HB.out⟩⟩
     case round =>
      clear H'
      obtain ⟨au, ad, rfl, HA, HK2, ae, ac, HB⟩ := hrel
      cases gk with
      | zero => exact absurd HA.out (by simp [graftwoodref05_With.l1])
      | succ k2 =>
       have H := HA.out
       clear HA
       simp only [graftwoodref05_With.l1] at H
       replace H := ifP H; rcases H with ⟨c17, H⟩ | ⟨c17, H⟩
       ·have bc := decide_eq_true c17
        clear c17
        replace H := ifN H; obtain ⟨c18, H⟩ := H
        have bz := decide_eq_true c18
        clear c18
        replace H := bnd H; obtain ⟨aV, A19, H⟩ := H
        replace H := ifB H; rcases H with ⟨rfl, H⟩ | ⟨rfl, H⟩
        ·replace H := ifN H; obtain ⟨c21, H⟩ := H
         have LMc21 := Aside0.mk c21
         clear c21
         obtain ⟨bf, aH⟩ : ∃ y_ : List (S55), y_ = (au ++ [(⟨(rd_T55 l0 ad).f0, (rd_T55 l0 ad).f1⟩ : S55)]) := ⟨_, rfl⟩
         replace H : (graftwoodref05_With.l1 k2 l0 bf (wrap64 (ad + 1)) a1_0 a1_1) = some r := by first | (rw [aH]; with_reducible exact H) | (have H2_ := (Option.bind_some _ _).symm.trans H; rw [aH]; with_reducible exact H2_) | (have H2_ := (Option.bind_some _ _).symm.trans H; with_reducible exact H2_) | with_reducible exact H | (rw [aH]; exact H) | exact H
         have Ny448 := Aside0.mk aH
         clear aH
         have H' := Aside0.mk H
         clear H
         try go_wp2
         replace ae := am (Kd.R_drew ae.out)
         replace ac := am (blk_drew ac.out)
         replace HB := am (below_drew1 HB.out)
         have p445 : 0 ≤ (ad : Int) := of_decide_eq_true rfA
         have q445 : ad < (l0.length : Int) := of_decide_eq_true rfA
         obtain ⟨ad445, e445, ai, aj⟩ := at_T55 HR0.out ad p445 q445
         have hw445_1 := aj
         have hw445_0 := ai
         cases e445
         replace ai := (HB.out.cell (World.block_lt_of_cell? w _ ai)).trans ai
         replace aj := (HB.out.cell (World.block_lt_of_cell? w _ aj)).trans aj
         replace p445 := eq_true p445
         replace q445 := eq_true q445
         refine start_ (n := 6) (S := fun w' => w'.cell? ⟨af, 0, none⟩ = some (.string a1_0) ∧ w'.cell? ⟨af, 1, none⟩ = some (.string a1_1) ∧ w'.cell? (ad445.add ((ad).toNat * 2)) = some (.string ((rd_T55 l0 ad).f0)) ∧ w'.cell? ⟨(ad445.add ((ad).toNat * 2)).block, (ad445.add ((ad).toNat * 2)).off + 1, none⟩ = some (.string ((rd_T55 l0 ad).f1))) (ds := []) (bA 6 0) rfK rfl rfK ⟨cT ac 0, cT ac 1, ((HB.out.cell (World.block_lt_of_cell? w _ hw445_0)).trans hw445_0), ((HB.out.cell (World.block_lt_of_cell? w _ hw445_1)).trans hw445_1)⟩ (fun hHeld => ?_)
         generalize wr.drew = w22 at ae ac HB ai aj hHeld ⊢
         refine pure_ (i := 1) (N := some 38) (v := ?_) (a' := ?_) (bA 6 2) rfl rfl rfK (fun _ _ _ h => h) (Or.inl ⟨by rfl, ?_⟩) ?_ ?_
         rotate_left
         ·intro w'
          go_simp
          with_reducible rfl
         rotate_left
         ·simp only [pS]
          rfl
         refine pure_ (i := 2) (N := some 39) (v := ?_) (a' := ?_) (bA 6 6) rfl rfl rfK (fun _ _ _ h => h) (Or.inl ⟨by rfl, ?_⟩) ?_ ?_
         rotate_left
         ·intro w'
          go_simp
          with_reducible rfl
         rotate_left
         ·simp only [pS]
          rfl
         refine pure_ (i := 3) (N := some 40) (v := ?_) (a' := ?_) (bA 6 14) rfl rfl rfK (fun _ _ _ h => h) (Or.inl ⟨by rfl, ?_⟩) ?_ ?_
         rotate_left
         ·intro w'
          go_simp
          with_reducible rfl
         rotate_left
         ·simp only [pS]
          rfl
         refine take_ (i := 0) (N := some 37) (v := ?_) (a' := ?_) (bA 6 15) rfl rfl rfK (fun _ _ _ h => h) (Or.inl ⟨by rfl, ?_⟩) hHeld ?_ ?_
         rotate_left
         ·rintro w' ⟨s0, s1, s2, s3⟩
          go_simp
          with_reducible rfl
         rotate_left
         ·simp only [pS]
          rfl
         refine take_ (i := 4) (N := some 41) (v := ?_) (a' := ?_) (bA 6 31) rfl rfl rfK (fun _ _ _ h => h) (Or.inl ⟨by rfl, ?_⟩) hHeld ?_ ?_
         rotate_left
         ·rintro w' ⟨s0, s1, s2, s3⟩
          go_simp
          with_reducible rfl
         rotate_left
         ·simp only [pS]
          rfl
         refine one_ (i := 5) (N := some 42) (bA 6 63) rfl rfl rfK (by decide) (fun K hK => ?_)
         refine gS Tryz.func62 #[.agg #[.string a1_0, .string a1_1], .agg #[.string ((rd_T55 l0 ad).f0), .string ((rd_T55 l0 ad).f1)]] ?_
         with_reducible refine (graftwoodref05_Less.calls k2 a1_0 a1_1 ((rd_T55 l0 ad).f0) ((rd_T55 l0 ad).f1) true _ A19.out).mono ?_
         rintro e w23 ⟨rfl, hb⟩
         refine ⟨_, rfl, ?_⟩
         replace ae := am (rB ae.out hb)
         replace ac := am (bB ac.out hb)
         replace HB := am (sTx HB.out hb)
         refine hK.out _ _ ⟨cT ac 0, cT ac 1, ((HB.out.cell (World.block_lt_of_cell? w _ hw445_0)).trans hw445_0), ((HB.out.cell (World.block_lt_of_cell? w _ hw445_1)).trans hw445_1)⟩ (fun hHeld => ?_)
         clear hK K
         refine mN _ ?_
         refine done_ rfK ?_
         have p447 : 0 ≤ (ad : Int) := of_decide_eq_true rfA
         have q447 : ad < (l0.length : Int) := of_decide_eq_true rfA
         obtain ⟨ad447, e447, aA, aC⟩ := at_T55 HR0.out ad p447 q447
         obtain rfl : ad445 = ad447 := (by injection e447)
         replace aA := (HB.out.cell (World.block_lt_of_cell? w _ aA)).trans aA
         replace aC := (HB.out.cell (World.block_lt_of_cell? w _ aC)).trans aC
         replace p447 := eq_true p447
         replace q447 := eq_true q447
         try go_wp2_with (first | ((with_reducible refine gate_builtin (b := .append) (xs := #[.tmp 43, .tmp 48]) rfl ?_); at_builtin; refine Kd.R_append k55 (w0 := w) w.heap.size rfl (.tmp 43) (.tmp 48) 22 55 (.agg #[(.string ⟨#[]⟩), (.string ⟨#[]⟩)]) 32 rfl Tryz.underlying22 info55 rfl (by decide) (by omega) u5 au (⟨(rd_T55 l0 ad).f0, (rd_T55 l0 ad).f1⟩ : S55) [.string ((rd_T55 l0 ad).f0), .string ((rd_T55 l0 ad).f1)] (fun k_ => k_ ≠ af) (fun _ => False) rfl rfl ?aP (fun _ hk => hk.elim) ?aF ?aO ?aB ?aS ?aL ?_; (case aP => exact k55_mkM _ _ _ (⟨(rd_T55 l0 ad).f0, (rd_T55 l0 ad).f1⟩ : S55)); (case aB => exact (eTx HB.out)); (case aF => exact (fun k_ hk => Kd.freshB (g := af) (o := .cells #[.string a1_0, .string a1_1] 55 (0, 0)) (bT ac.out) k_ hk)); (case aO => exact (rT ae.out)); (case aS => exact (below_size (eTx HB.out))); (case aL => have := LMc21.out; omega); intro bG w24 ho hb hg hat; rw [← Ny448.out] at ho; replace ac := am (blk_grown (g := af) (o := .cells #[.string a1_0, .string a1_1] 55 (0, 0)) (bT ac.out) hg (Kd.R_away ae.out (fun _ hk => hk))); replace HB := am (hb); have bg := am (ho); clear ae ho hb hg hat))
         go_roundg k2
         case measure => have := HK1.out; have := HK2.out; omega
         case rel => exact ⟨(bf), (wrap64 (ad + 1)), rfG, H', ⟨by have := HK1.out; have := HK2.out; omega⟩, ⟨rT bg.out⟩, ⟨bT ac.out⟩, ⟨eTx HB.out⟩⟩
        ·have H' := Aside0.mk H
         clear H
         try go_wp2
         replace ae := am (Kd.R_drew ae.out)
         replace ac := am (blk_drew ac.out)
         replace HB := am (below_drew1 HB.out)
         have p445 : 0 ≤ (ad : Int) := of_decide_eq_true rfA
         have q445 : ad < (l0.length : Int) := of_decide_eq_true rfA
         obtain ⟨ad445, e445, ai, aj⟩ := at_T55 HR0.out ad p445 q445
         have hw445_1 := aj
         have hw445_0 := ai
         cases e445
         replace ai := (HB.out.cell (World.block_lt_of_cell? w _ ai)).trans ai
         replace aj := (HB.out.cell (World.block_lt_of_cell? w _ aj)).trans aj
         replace p445 := eq_true p445
         replace q445 := eq_true q445
         refine start_ (n := 6) (S := fun w' => w'.cell? ⟨af, 0, none⟩ = some (.string a1_0) ∧ w'.cell? ⟨af, 1, none⟩ = some (.string a1_1) ∧ w'.cell? (ad445.add ((ad).toNat * 2)) = some (.string ((rd_T55 l0 ad).f0)) ∧ w'.cell? ⟨(ad445.add ((ad).toNat * 2)).block, (ad445.add ((ad).toNat * 2)).off + 1, none⟩ = some (.string ((rd_T55 l0 ad).f1))) (ds := []) (bA 6 0) rfK rfl rfK ⟨cT ac 0, cT ac 1, ((HB.out.cell (World.block_lt_of_cell? w _ hw445_0)).trans hw445_0), ((HB.out.cell (World.block_lt_of_cell? w _ hw445_1)).trans hw445_1)⟩ (fun hHeld => ?_)
         generalize wr.drew = w25 at ae ac HB ai aj hHeld ⊢
         refine pure_ (i := 1) (N := some 38) (v := ?_) (a' := ?_) (bA 6 2) rfl rfl rfK (fun _ _ _ h => h) (Or.inl ⟨by rfl, ?_⟩) ?_ ?_
         rotate_left
         ·intro w'
          go_simp
          with_reducible rfl
         rotate_left
         ·simp only [pS]
          rfl
         refine pure_ (i := 2) (N := some 39) (v := ?_) (a' := ?_) (bA 6 6) rfl rfl rfK (fun _ _ _ h => h) (Or.inl ⟨by rfl, ?_⟩) ?_ ?_
         rotate_left
         ·intro w'
          go_simp
          with_reducible rfl
         rotate_left
         ·simp only [pS]
          rfl
         refine pure_ (i := 3) (N := some 40) (v := ?_) (a' := ?_) (bA 6 14) rfl rfl rfK (fun _ _ _ h => h) (Or.inl ⟨by rfl, ?_⟩) ?_ ?_
         rotate_left
         ·intro w'
          go_simp
          with_reducible rfl
         rotate_left
         ·simp only [pS]
          rfl
         refine take_ (i := 0) (N := some 37) (v := ?_) (a' := ?_) (bA 6 15) rfl rfl rfK (fun _ _ _ h => h) (Or.inl ⟨by rfl, ?_⟩) hHeld ?_ ?_
         rotate_left
         ·rintro w' ⟨s0, s1, s2, s3⟩
          go_simp
          with_reducible rfl
         rotate_left
         ·simp only [pS]
          rfl
         refine take_ (i := 4) (N := some 41) (v := ?_) (a' := ?_) (bA 6 31) rfl rfl rfK (fun _ _ _ h => h) (Or.inl ⟨by rfl, ?_⟩) hHeld ?_ ?_
         rotate_left
         ·rintro w' ⟨s0, s1, s2, s3⟩
          go_simp
          with_reducible rfl
         rotate_left
         ·simp only [pS]
          rfl
         refine one_ (i := 5) (N := some 42) (bA 6 63) rfl rfl rfK (by decide) (fun K hK => ?_)
         refine gS Tryz.func62 #[.agg #[.string a1_0, .string a1_1], .agg #[.string ((rd_T55 l0 ad).f0), .string ((rd_T55 l0 ad).f1)]] ?_
         with_reducible refine (graftwoodref05_Less.calls k2 a1_0 a1_1 ((rd_T55 l0 ad).f0) ((rd_T55 l0 ad).f1) false _ A19.out).mono ?_
         rintro e w26 ⟨rfl, hb⟩
         refine ⟨_, rfl, ?_⟩
         replace ae := am (rB ae.out hb)
         replace ac := am (bB ac.out hb)
         replace HB := am (sTx HB.out hb)
         refine hK.out _ _ ⟨cT ac 0, cT ac 1, ((HB.out.cell (World.block_lt_of_cell? w _ hw445_0)).trans hw445_0), ((HB.out.cell (World.block_lt_of_cell? w _ hw445_1)).trans hw445_1)⟩ (fun hHeld => ?_)
         clear hK K
         refine mN _ ?_
         refine done_ rfK ?_
         try go_wp2
         go_roundg k2
         case measure => have := HK1.out; have := HK2.out; omega
         case rel => exact ⟨(au), (wrap64 (ad + 1)), rfG, H', ⟨by have := HK1.out; have := HK2.out; omega⟩, ⟨rT ae.out⟩, ⟨bT ac.out⟩, ⟨eTx HB.out⟩⟩
       ·have bc := decide_eq_false c17
        clear c17
        obtain rfl := smI H
        go_wp2
        go_ret
        exact ⟨_, rfF, by (with_reducible repeat (first | apply Kd.R_alloc | apply Kd.R_drewN | apply Kd.R_drew)); exact Kd.R_mono ae.out (fun _ hk => trivial), eTx HB.out⟩
    ·exact absurd H (by simp)

end Go.Proofs.YtknmfmedklfepaaGreatDoor.P
