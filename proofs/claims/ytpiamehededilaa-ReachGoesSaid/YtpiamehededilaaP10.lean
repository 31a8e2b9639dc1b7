-- Written by this project's own program (wip/tools/hp.py), driving the kit's print; hand texts among it. Not trusted: Lean checks it.
-- half the indentation
import Derived.Test.YtpiamehededilaaThen
import Derived.Test.YtpiamehededilaaP0
import Derived.Test.YtpiamehededilaaP7
namespace Go.Proofs.Ytpiamehededilaa.P
open Go.RowKit Go.Proofs.YtpiamehededilaaW.PrintWords Go.Proofs.YtpiamehededilaaW.PrintLast Go.Proofs.YtpiamehededilaaW.PrintMore
attribute [local go_sem] max2_int min2_int max_two min_two max_three min_three max_four min_four   -- for this text's walks alone
set_option linter.unusedVariables false
set_option linter.unusedSimpArgs false

/-! ### graftwoodref11_Has: function 25 -/
def graftwoodref11_Has.l0 : Nat → List Int → Int → Int → Option (Bool)
 | 0, _, _, _ => none
 | k + 1, x0, x1, x5 => if x5 < (x0.length : Int) then (if 0 ≤ x5 then (if (rd x0 x5) = x1 then (some true) else (graftwoodref11_Has.l0 k x0 x1 (wrap64 (x5 + 1)))) else (none)) else (some false)
def graftwoodref11_Has.f (k : Nat) (l0 : List Int) (a1 : Int) : Option (Bool) := graftwoodref11_Has.l0 k l0 a1 0
theorem graftwoodref11_Has.mono_l : ∀ k, (∀ y0 y1 y2, LeO (graftwoodref11_Has.l0 k y0 y1 y2) (graftwoodref11_Has.l0 (k + 1) y0 y1 y2))
 | 0 => fun _ _ _ r h => by simp [graftwoodref11_Has.l0] at h
 | k + 1 => by
  have ih0 := graftwoodref11_Has.mono_l k
  ·intro y0 y1 y2
   unfold graftwoodref11_Has.l0
   repeat' first
   | (with_reducible exact ih0 _ _ _)
   | (with_reducible exact LeO.refl _)
   | (with_reducible exact LeO.none _)
   | (with_reducible refine LeO.ite ?_ ?_)
   | (with_reducible refine LeO.bind ?_ (fun _ => ?_))
   | exact ih0 _ _ _
   | exact LeO.none _
   | refine LeO.ite ?_ ?_
   | refine LeO.bind ?_ (fun _ => ?_)
theorem graftwoodref11_Has.mono : ∀ a0 a1 k, LeO (graftwoodref11_Has.f k a0 a1) (graftwoodref11_Has.f (k + 1) a0 a1) := by
 intro a0 a1 k
 have ih0 := graftwoodref11_Has.mono_l k
 unfold graftwoodref11_Has.f
 repeat' first
   | (with_reducible exact ih0 _ _ _)
   | (with_reducible exact LeO.refl _)
   | (with_reducible exact LeO.none _)
   | (with_reducible refine LeO.ite ?_ ?_)
   | (with_reducible refine LeO.bind ?_ (fun _ => ?_))
   | exact ih0 _ _ _
   | exact LeO.none _
   | refine LeO.ite ?_ ?_
   | refine LeO.bind ?_ (fun _ => ?_)
set_option maxHeartbeats 8000000 in
set_option maxRecDepth 100000 in
theorem graftwoodref11_Has.calls (k : Nat) (A0 : Option Addr) (c0 : Nat) (l0 : List Int) (a1 : Int) (r : Bool) (w : World) (hr0 : Kd.C (Kd.int .i64) w A0 l0.length l0) (hc0 : l0.length ≤ c0) (h : graftwoodref11_Has.f k l0 a1 = some r) :
  Calls Try.prog 25 #[.slice A0 l0.length c0, .int .i64 a1] w fun e w' => e = .returned (.bool r) ∧ Drawn0 w w' := by
 have HR0 := Aside0.mk hr0
 have HC0 := Aside0.mk hc0
 clear hr0 hc0
 have H : (graftwoodref11_Has.l0 k l0 a1 0) = some r := h
 clear h
 have H' := Aside0.mk H
 clear H
 go_enter Try.func25, Try.ntmps25
 go_wp2
 go_loopg [5] k (fun kq v5 w' => ∃ (ab : Int), v5 = .int .i64 ab ∧ Aside0 (graftwoodref11_Has.l0 kq l0 a1 ab = some r) ∧ Aside0 (kq ≤ k) ∧ Drawn0 w w')
 case atStart => exact ⟨(0), (by first | rfl | (simp; done) | (simp [*]; done)), H', ⟨Nat.le_refl _⟩, by repeat (first | exact Drawn0.refl _ | apply Drawn0.step)⟩
 case round =>
  clear H'
  try clear c2
  try clear p2
  obtain ⟨ab, rfl, HA, HK1, ⟨m1, rfl⟩⟩ := hrel
  cases gk with
  | zero => exact absurd HA.out (by simp [graftwoodref11_Has.l0])
  | succ k1 =>
   have H := HA.out
   clear HA
   simp only [graftwoodref11_Has.l0] at H
   by_cases c3 : ab < (l0.length : Int)
   ·rw [if_pos c3] at H
    have aI : decide (ab < (l0.length : Int)) = true := decide_eq_true c3
    clear c3
    by_cases c4 : 0 ≤ ab
    ·rw [if_pos c4] at H
     have a6 : decide (0 ≤ ab) = true := decide_eq_true c4
     clear c4
     by_cases c5 : (rd l0 ab) = a1
     ·rw [if_pos c5] at H
      have aR : ((rd l0 ab) == a1) = true := beq_iff_eq.mpr c5
      have a7 : ((rd l0 ab) != a1) = false := bne_eq_false_iff_eq.mpr c5
      clear c5
      obtain rfl := Option.some.inj H
      have p167 : 0 ≤ (ab : Int) := of_decide_eq_true (by first | (with_reducible assumption) | assumption)
      have q167 : ab < (l0.length : Int) := of_decide_eq_true (by first | (with_reducible assumption) | assumption)
      obtain ⟨ad167, e167, aU⟩ := Kd.at_int HR0.out ab p167 q167
      cases e167
      replace p167 := eq_true p167
      replace q167 := eq_true q167
      go_wp2
      go_ret
      exact ⟨by first | rfl | (simp; done) | (simp [*]; done), by repeat (first | exact Drawn0.refl _ | apply Drawn0.step)⟩
     ·rw [if_neg c5] at H
      have aR : ((rd l0 ab) == a1) = false := beq_eq_false_iff_ne.mpr c5
      have a7 : ((rd l0 ab) != a1) = true := bne_iff_ne.mpr c5
      have H' := Aside0.mk H
      clear H
      have p167 : 0 ≤ (ab : Int) := of_decide_eq_true (by first | (with_reducible assumption) | assumption)
      have q167 : ab < (l0.length : Int) := of_decide_eq_true (by first | (with_reducible assumption) | assumption)
      obtain ⟨ad167, e167, aU⟩ := Kd.at_int HR0.out ab p167 q167
      cases e167
      replace p167 := eq_true p167
      replace q167 := eq_true q167
      go_wp2
      go_roundg k1
      case measure => have := HK1.out; omega
      case rel => exact ⟨(wrap64 (ab + 1)), (by first | rfl | (simp; done) | (simp [*]; done)), H', ⟨by have := HK1.out; omega⟩, by repeat (first | exact Drawn0.refl _ | apply Drawn0.step)⟩
    ·rw [if_neg c4] at H
     exact absurd H (by simp)
   ·rw [if_neg c3] at H
    have aI : decide (ab < (l0.length : Int)) = false := decide_eq_false c3
    clear c3
    obtain rfl := Option.some.inj H
    go_wp2
    go_ret
    exact ⟨by first | rfl | (simp; done) | (simp [*]; done), by repeat (first | exact Drawn0.refl _ | apply Drawn0.step)⟩

/-! ### graftwoodref15_Live: function 17 -/
mutual
def graftwoodref15_Live.l0 : Nat → List (S36) → List Int → Bool → Option (List Int)
 | 0, _, _, _ => none
 | k + 1, x0, x3, x4 => if x4 = true then (graftwoodref15_Live.l1 k x0 x3 false 0) else ((graftwoodref15_Sorted.f x3).bind fun aQ => (some aQ))
def graftwoodref15_Live.l1 : Nat → List (S36) → List Int → Bool → Int → Option (List Int)
 | 0, _, _, _, _ => none
 | k + 1, x0, x3, x4, x5 => if x5 < (x0.length : Int) then (if 0 ≤ x5 then (if ((rd_T36 x0 x5).f0) = (-1) then ((graftwoodref11_Has.f k x3 ((rd_T36 x0 x5).f1)).bind fun aV => (if aV = true then (graftwoodref15_Live.l1 k x0 x3 x4 (wrap64 (x5 + 1))) else (if x3.length < 17592186044416 then (graftwoodref15_Live.l1 k x0 (x3 ++ [(rd_T36 x0 x5).f1]) true (wrap64 (x5 + 1))) else (none)))) else ((graftwoodref11_Has.f k x3 ((rd_T36 x0 x5).f0)).bind fun aW => (if aW = true then ((graftwoodref11_Has.f k x3 ((rd_T36 x0 x5).f1)).bind fun aJ => (if aJ = true then (graftwoodref15_Live.l1 k x0 x3 x4 (wrap64 (x5 + 1))) else (if x3.length < 17592186044416 then (graftwoodref15_Live.l1 k x0 (x3 ++ [(rd_T36 x0 x5).f1]) true (wrap64 (x5 + 1))) else (none)))) else (graftwoodref15_Live.l1 k x0 x3 x4 (wrap64 (x5 + 1)))))) else (none)) else (graftwoodref15_Live.l0 k x0 x3 x4)
end
def graftwoodref15_Live.f (k : Nat) (l0 : List (S36)) : Option (List Int) := graftwoodref15_Live.l0 k l0 ([] : List Int) true
theorem graftwoodref15_Live.mono_l : ∀ k, (∀ y0 y1 y2, LeO (graftwoodref15_Live.l0 k y0 y1 y2) (graftwoodref15_Live.l0 (k + 1) y0 y1 y2)) ∧ (∀ y0 y1 y2 y3, LeO (graftwoodref15_Live.l1 k y0 y1 y2 y3) (graftwoodref15_Live.l1 (k + 1) y0 y1 y2 y3))
 | 0 => ⟨fun _ _ _ r h => by simp [graftwoodref15_Live.l0] at h, fun _ _ _ _ r h => by simp [graftwoodref15_Live.l1] at h⟩
 | k + 1 => by
  obtain ⟨ih0, ih1⟩ := graftwoodref15_Live.mono_l k
  refine ⟨?_, ?_⟩
  ·intro y0 y1 y2
   unfold graftwoodref15_Live.l0
   repeat' first
   | (with_reducible exact ih0 _ _ _)
   | (with_reducible exact ih1 _ _ _ _)
   | (with_reducible exact graftwoodref11_Has.mono _ _ _)
   | (with_reducible exact LeO.refl _)
   | (with_reducible exact LeO.none _)
   | (with_reducible refine LeO.ite ?_ ?_)
   | (with_reducible refine LeO.bind ?_ (fun _ => ?_))
   | exact ih0 _ _ _
   | exact ih1 _ _ _ _
   | exact graftwoodref11_Has.mono _ _ _
   | exact LeO.none _
   | refine LeO.ite ?_ ?_
   | refine LeO.bind ?_ (fun _ => ?_)
  ·intro y0 y1 y2 y3
   unfold graftwoodref15_Live.l1
   repeat' first
   | (with_reducible exact ih0 _ _ _)
   | (with_reducible exact ih1 _ _ _ _)
   | (with_reducible exact graftwoodref11_Has.mono _ _ _)
   | (with_reducible exact LeO.refl _)
   | (with_reducible exact LeO.none _)
   | (with_reducible refine LeO.ite ?_ ?_)
   | (with_reducible refine LeO.bind ?_ (fun _ => ?_))
   | exact ih0 _ _ _
   | exact ih1 _ _ _ _
   | exact graftwoodref11_Has.mono _ _ _
   | exact LeO.none _
   | refine LeO.ite ?_ ?_
   | refine LeO.bind ?_ (fun _ => ?_)
theorem graftwoodref15_Live.mono : ∀ a0 k, LeO (graftwoodref15_Live.f k a0) (graftwoodref15_Live.f (k + 1) a0) := by
 intro a0 k
 obtain ⟨ih0, ih1⟩ := graftwoodref15_Live.mono_l k
 unfold graftwoodref15_Live.f
 repeat' first
   | (with_reducible exact ih0 _ _ _)
   | (with_reducible exact ih1 _ _ _ _)
   | (with_reducible exact graftwoodref11_Has.mono _ _ _)
   | (with_reducible exact LeO.refl _)
   | (with_reducible exact LeO.none _)
   | (with_reducible refine LeO.ite ?_ ?_)
   | (with_reducible refine LeO.bind ?_ (fun _ => ?_))
   | exact ih0 _ _ _
   | exact ih1 _ _ _ _
   | exact graftwoodref11_Has.mono _ _ _
   | exact LeO.none _
   | refine LeO.ite ?_ ?_
   | refine LeO.bind ?_ (fun _ => ?_)
set_option maxHeartbeats 8000000 in
set_option maxRecDepth 100000 in
theorem graftwoodref15_Live.calls (k : Nat) (A0 : Option Addr) (c0 : Nat) (l0 : List (S36)) (r : List Int) (w : World) (hr0 : Kd.C k36 w A0 l0.length l0) (hc0 : l0.length ≤ c0) (h : graftwoodref15_Live.f k l0 = some r) :
  Calls Try.prog 17 #[.slice A0 l0.length c0] w fun e w' => ∃ v0_ : Value, e = .returned (v0_) ∧ Kd.R (Kd.int .i64) 3 w' w.heap.size (fun _ => True) v0_ r ∧ Below w.heap.size w w' := by
 have HR0 := Aside0.mk hr0
 have HC0 := Aside0.mk hc0
 clear hr0 hc0
 have HB := am (Below.refl w.heap.size w)
 have H : (graftwoodref15_Live.l0 k l0 ([] : List Int) true) = some r := h
 clear h
 have H' := Aside0.mk H
 clear H
 go_enter Try.func17, Try.ntmps17
 go_wp2
 go_loopg [3, 4] k (fun kq v3 v4 w' => ∃ (aK : List Int) (aX : Bool), v4 = .bool aX ∧ Aside0 (graftwoodref15_Live.l0 kq l0 aK aX = some r) ∧ Aside0 (kq ≤ k) ∧ Aside0 (Kd.R (Kd.int .i64) 3 w' w.heap.size (fun _ => True) v3 aK) ∧ Aside0 (Below w.heap.size w w'))
 case atStart => exact ⟨(([] : List Int)), (true), (by first | rfl | (simp; done) | (simp [*]; done)), H', ⟨Nat.le_refl _⟩, ⟨by first | exact Kd.R_nil _ _ _ _ _ | exact Kd.N_nil _ _ _ _ _ | exact Kd.V_nil _ _ _ _ _ | exact Kd.Q_nil _ _ _ _ _ | exact Kd.S_nil _ _ _ _ _⟩, ⟨eT HB.out⟩⟩
 case round =>
  clear H'
  try clear c1
  obtain ⟨aK, aX, rfl, HA, HK1, ah, HB⟩ := hrel
  cases gk with
  | zero => exact absurd HA.out (by simp [graftwoodref15_Live.l0])
  | succ k1 =>
   have H := HA.out
   clear HA
   simp only [graftwoodref15_Live.l0] at H
   by_cases c2 : aX = true
   ·subst c2
    have H1 : (graftwoodref15_Live.l1 k1 l0 aK false 0) = some r := by rw [if_pos rfl] at H; exact H
    clear H
    have H := H1
    clear H1
    have H' := Aside0.mk H
    clear H
    go_wp2
    go_loopg [3, 4, 5] k1 (fun kq v3 v4 v5 w' => ∃ (ag : List Int) (az : Bool) (aa : Int), v4 = .bool az ∧ v5 = .int .i64 aa ∧ Aside0 (graftwoodref15_Live.l1 kq l0 ag az aa = some r) ∧ Aside0 (kq ≤ k1) ∧ Aside0 (Kd.R (Kd.int .i64) 3 w' w.heap.size (fun _ => True) v3 ag) ∧ Aside0 (Below w.heap.size w w'))
    case atStart => exact ⟨(aK), (false), (0), (by first | rfl | (simp; done) | (simp [*]; done)), (by first | rfl | (simp; done) | (simp [*]; done)), H', ⟨Nat.le_refl _⟩, ⟨rT ah.out⟩, ⟨eT HB.out⟩⟩
    case round =>
     clear H'
     try clear c1
     try clear c2
     try clear p2
     obtain ⟨ag, az, aa, rfl, rfl, HA, HK2, ah, HB⟩ := hrel
     cases gk with
     | zero => exact absurd HA.out (by simp [graftwoodref15_Live.l1])
     | succ k2 =>
      have H := HA.out
      clear HA
      simp only [graftwoodref15_Live.l1] at H
      by_cases c3 : aa < (l0.length : Int)
      ·rw [if_pos c3] at H
       have aI : decide (aa < (l0.length : Int)) = true := decide_eq_true c3
       clear c3
       by_cases c4 : 0 ≤ aa
       ·rw [if_pos c4] at H
        have a6 : decide (0 ≤ aa) = true := decide_eq_true c4
        clear c4
        by_cases c5 : ((rd_T36 l0 aa).f0) = (-1)
        ·rw [if_pos c5] at H
         have aR : (((rd_T36 l0 aa).f0) == (-1)) = true := beq_iff_eq.mpr c5
         have a7 : (((rd_T36 l0 aa).f0) != (-1)) = false := bne_eq_false_iff_eq.mpr c5
         clear c5
         replace H := Option.bind_eq_some_iff.mp H
         obtain ⟨aV, A60, H⟩ := H
         replace H : (if aV = true then (graftwoodref15_Live.l1 k2 l0 ag az (wrap64 (aa + 1))) else (if ag.length < 17592186044416 then (graftwoodref15_Live.l1 k2 l0 (ag ++ [(rd_T36 l0 aa).f1]) true (wrap64 (aa + 1))) else (none))) = some r := H
         have A6 := Aside0.mk A60
         clear A60
         by_cases c7 : aV = true
         ·subst c7
          have H1 : (graftwoodref15_Live.l1 k2 l0 ag az (wrap64 (aa + 1))) = some r := by rw [if_pos rfl] at H; exact H
          clear H
          have H := H1
          clear H1
          have H' := Aside0.mk H
          clear H
          have p171 : 0 ≤ (aa : Int) := of_decide_eq_true (by first | (with_reducible assumption) | assumption)
          have q171 : aa < (l0.length : Int) := of_decide_eq_true (by first | (with_reducible assumption) | assumption)
          obtain ⟨ad171, e171, ac, ad, ae⟩ := at_T36 HR0.out aa p171 q171
          cases e171
          replace ac := (HB.out.cell (World.block_lt_of_cell? w _ ac)).trans ac
          replace ad := (HB.out.cell (World.block_lt_of_cell? w _ ad)).trans ad
          replace ae := (HB.out.cell (World.block_lt_of_cell? w _ ae)).trans ae
          replace p171 := eq_true p171
          replace q171 := eq_true q171
          have p172 : 0 ≤ (aa : Int) := of_decide_eq_true (by first | (with_reducible assumption) | assumption)
          have q172 : aa < (l0.length : Int) := of_decide_eq_true (by first | (with_reducible assumption) | assumption)
          obtain ⟨ad172, e172, ap, aq, ar⟩ := at_T36 HR0.out aa p172 q172
          obtain rfl : ad171 = ad172 := (by injection e172)
          replace ap := (HB.out.cell (World.block_lt_of_cell? w _ ap)).trans ap
          replace aq := (HB.out.cell (World.block_lt_of_cell? w _ aq)).trans aq
          replace ar := (HB.out.cell (World.block_lt_of_cell? w _ ar)).trans ar
          replace p172 := eq_true p172
          replace q172 := eq_true q172
          obtain ⟨Ao8, co8, eo8⟩ := Kd.R_slice ah.out
          subst eo8
          go_wp2_with (first | (go_at_call 25; (with_reducible refine (graftwoodref11_Has.calls k2 _ _ ag ((rd_T36 l0 aa).f1) true _ ?side1 ?side2 A6.out).mono ?_); (case side1 => exact cW (Kd.R_reads' ah.out).2.2); (case side2 => exact (Kd.R_reads' ah.out).2.1); rintro e w' ⟨rfl, ⟨nd, rfl⟩⟩))
          go_roundg k2
          case measure => have := HK1.out; have := HK2.out; omega
          case rel => exact ⟨(ag), (az), (wrap64 (aa + 1)), (by first | rfl | (simp; done) | (simp [*]; done)), (by first | rfl | (simp; done) | (simp [*]; done)), H', ⟨by have := HK1.out; have := HK2.out; omega⟩, ⟨rT ah.out⟩, ⟨eT HB.out⟩⟩
         ·replace c7 := Bool.eq_false_iff.mpr c7
          subst c7
          have H1 : (if ag.length < 17592186044416 then (graftwoodref15_Live.l1 k2 l0 (ag ++ [(rd_T36 l0 aa).f1]) true (wrap64 (aa + 1))) else (none)) = some r := by rw [if_neg (show ¬ (false = true) by decide)] at H; exact H
          clear H
          have H := H1
          clear H1
          by_cases c9 : ag.length < 17592186044416
          ·rw [if_pos c9] at H
           have LMc9 := Aside0.mk c9
           clear c9
           obtain ⟨a8, aM⟩ : ∃ y_ : List Int, y_ = (ag ++ [(rd_T36 l0 aa).f1]) := ⟨_, rfl⟩
           replace H : (graftwoodref15_Live.l1 k2 l0 a8 true (wrap64 (aa + 1))) = some r := by first | (rw [aM]; with_reducible exact H) | (have H2_ := (Option.bind_some _ _).symm.trans H; rw [aM]; with_reducible exact H2_) | (have H2_ := (Option.bind_some _ _).symm.trans H; with_reducible exact H2_) | with_reducible exact H | (rw [aM]; exact H) | exact H
           have Ny175 := Aside0.mk aM
           clear aM
           have H' := Aside0.mk H
           clear H
           have p171 : 0 ≤ (aa : Int) := of_decide_eq_true (by first | (with_reducible assumption) | assumption)
           have q171 : aa < (l0.length : Int) := of_decide_eq_true (by first | (with_reducible assumption) | assumption)
           obtain ⟨ad171, e171, ac, ad, ae⟩ := at_T36 HR0.out aa p171 q171
           cases e171
           replace ac := (HB.out.cell (World.block_lt_of_cell? w _ ac)).trans ac
           replace ad := (HB.out.cell (World.block_lt_of_cell? w _ ad)).trans ad
           replace ae := (HB.out.cell (World.block_lt_of_cell? w _ ae)).trans ae
           replace p171 := eq_true p171
           replace q171 := eq_true q171
           have p172 : 0 ≤ (aa : Int) := of_decide_eq_true (by first | (with_reducible assumption) | assumption)
           have q172 : aa < (l0.length : Int) := of_decide_eq_true (by first | (with_reducible assumption) | assumption)
           obtain ⟨ad172, e172, ap, aq, ar⟩ := at_T36 HR0.out aa p172 q172
           obtain rfl : ad171 = ad172 := (by injection e172)
           replace ap := (HB.out.cell (World.block_lt_of_cell? w _ ap)).trans ap
           replace aq := (HB.out.cell (World.block_lt_of_cell? w _ aq)).trans aq
           replace ar := (HB.out.cell (World.block_lt_of_cell? w _ ar)).trans ar
           replace p172 := eq_true p172
           replace q172 := eq_true q172
           obtain ⟨bH, bI, bJ⟩ := Kd.R_slice ah.out
           subst bJ
           go_wp2_with (first | (go_at_call 25; (with_reducible refine (graftwoodref11_Has.calls k2 _ _ ag ((rd_T36 l0 aa).f1) false _ ?side1 ?side2 A6.out).mono ?_); (case side1 => exact cW (Kd.R_reads' ah.out).2.2); (case side2 => exact (Kd.R_reads' ah.out).2.1); rintro e w' ⟨rfl, ⟨nd, rfl⟩⟩; have p174 : 0 ≤ (aa : Int) := of_decide_eq_true (by first | (with_reducible assumption) | assumption); have q174 : aa < (l0.length : Int) := of_decide_eq_true (by first | (with_reducible assumption) | assumption); obtain ⟨ad174, e174, aA, aC, aD⟩ := at_T36 HR0.out aa p174 q174; obtain rfl : ad171 = ad174 := (by injection e174); replace aA := (HB.out.cell (World.block_lt_of_cell? w _ aA)).trans aA; replace aC := (HB.out.cell (World.block_lt_of_cell? w _ aC)).trans aC; replace aD := (HB.out.cell (World.block_lt_of_cell? w _ aD)).trans aD; replace p174 := eq_true p174; replace q174 := eq_true q174) | ((with_reducible refine gate_builtin (b := .append) (xs := #[.tmp 38, .tmp 44]) rfl ?_); at_builtin; refine Kd.R_append (Kd.int .i64) (w0 := w) w.heap.size rfl (.tmp 38) (.tmp 44) 23 3 (.int .i64 0) 8 rfl Try.underlying23 info3 rfl (by decide) (by omega) (.slice bH ag.length bI) ag ((rd_T36 l0 aa).f1) [.int .i64 ((rd_T36 l0 aa).f1)] (fun _ => True) (fun _ => False) rfl rfl ?aP (fun _ hk => hk.elim) ?aF ?aO ?aB ?aS ?aL ?_; (case aP => exact rfl); (case aB => exact (eT HB.out)); (case aF => exact (fun _ _ => trivial)); (case aO => exact (rT ah.out)); (case aS => exact (below_size (eT HB.out))); (case aL => have := LMc9.out; omega); intro cc w11 ho hb hg hat; rw [← Ny175.out] at ho; replace HB := am (hb); have a9 := am (ho); clear ah ho hb hg hat))
           go_roundg k2
           case measure => have := HK1.out; have := HK2.out; omega
           case rel => exact ⟨(a8), (true), (wrap64 (aa + 1)), (by first | rfl | (simp; done) | (simp [*]; done)), (by first | rfl | (simp; done) | (simp [*]; done)), H', ⟨by have := HK1.out; have := HK2.out; omega⟩, ⟨rT a9.out⟩, ⟨eT HB.out⟩⟩
          ·rw [if_neg c9] at H
           exact absurd H (by simp)
        ·rw [if_neg c5] at H
         have aR : (((rd_T36 l0 aa).f0) == (-1)) = false := beq_eq_false_iff_ne.mpr c5
         have a7 : (((rd_T36 l0 aa).f0) != (-1)) = true := bne_iff_ne.mpr c5
         replace H := Option.bind_eq_some_iff.mp H
         obtain ⟨aW, a_, H⟩ := H
         replace H : (if aW = true then ((graftwoodref11_Has.f k2 ag ((rd_T36 l0 aa).f1)).bind fun aJ => (if aJ = true then (graftwoodref15_Live.l1 k2 l0 ag az (wrap64 (aa + 1))) else (if ag.length < 17592186044416 then (graftwoodref15_Live.l1 k2 l0 (ag ++ [(rd_T36 l0 aa).f1]) true (wrap64 (aa + 1))) else (none)))) else (graftwoodref15_Live.l1 k2 l0 ag az (wrap64 (aa + 1)))) = some r := H
         have A12 := Aside0.mk a_
         clear a_
         by_cases c13 : aW = true
         ·subst c13
          have H1 : ((graftwoodref11_Has.f k2 ag ((rd_T36 l0 aa).f1)).bind fun aJ => (if aJ = true then (graftwoodref15_Live.l1 k2 l0 ag az (wrap64 (aa + 1))) else (if ag.length < 17592186044416 then (graftwoodref15_Live.l1 k2 l0 (ag ++ [(rd_T36 l0 aa).f1]) true (wrap64 (aa + 1))) else (none)))) = some r := by rw [if_pos rfl] at H; exact H
          clear H
          have H := H1
          clear H1
          replace H := Option.bind_eq_some_iff.mp H
          obtain ⟨aJ, ba, H⟩ := H
          replace H : (if aJ = true then (graftwoodref15_Live.l1 k2 l0 ag az (wrap64 (aa + 1))) else (if ag.length < 17592186044416 then (graftwoodref15_Live.l1 k2 l0 (ag ++ [(rd_T36 l0 aa).f1]) true (wrap64 (aa + 1))) else (none))) = some r := H
          have A14 := Aside0.mk ba
          clear ba
          by_cases c15 : aJ = true
          ·subst c15
           have H1 : (graftwoodref15_Live.l1 k2 l0 ag az (wrap64 (aa + 1))) = some r := by rw [if_pos rfl] at H; exact H
           clear H
           have H := H1
           clear H1
           have H' := Aside0.mk H
           clear H
           have p171 : 0 ≤ (aa : Int) := of_decide_eq_true (by first | (with_reducible assumption) | assumption)
           have q171 : aa < (l0.length : Int) := of_decide_eq_true (by first | (with_reducible assumption) | assumption)
           obtain ⟨ad171, e171, ac, ad, ae⟩ := at_T36 HR0.out aa p171 q171
           cases e171
           replace ac := (HB.out.cell (World.block_lt_of_cell? w _ ac)).trans ac
           replace ad := (HB.out.cell (World.block_lt_of_cell? w _ ad)).trans ad
           replace ae := (HB.out.cell (World.block_lt_of_cell? w _ ae)).trans ae
           replace p171 := eq_true p171
           replace q171 := eq_true q171
           have p178 : 0 ≤ (aa : Int) := of_decide_eq_true (by first | (with_reducible assumption) | assumption)
           have q178 : aa < (l0.length : Int) := of_decide_eq_true (by first | (with_reducible assumption) | assumption)
           obtain ⟨ad178, e178, aj, ak, al⟩ := at_T36 HR0.out aa p178 q178
           obtain rfl : ad171 = ad178 := (by injection e178)
           replace aj := (HB.out.cell (World.block_lt_of_cell? w _ aj)).trans aj
           replace ak := (HB.out.cell (World.block_lt_of_cell? w _ ak)).trans ak
           replace al := (HB.out.cell (World.block_lt_of_cell? w _ al)).trans al
           replace p178 := eq_true p178
           replace q178 := eq_true q178
           obtain ⟨cd, ce, bK⟩ := Kd.R_slice ah.out
           subst bK
           go_wp2_with (first | (go_at_call 25; (with_reducible refine (graftwoodref11_Has.calls k2 _ _ ag ((rd_T36 l0 aa).f0) true _ ?side1 ?side2 A12.out).mono ?_); (case side1 => exact cW (Kd.R_reads' ah.out).2.2); (case side2 => exact (Kd.R_reads' ah.out).2.1); rintro e w' ⟨rfl, ⟨nd, rfl⟩⟩; have p180 : 0 ≤ (aa : Int) := of_decide_eq_true (by first | (with_reducible assumption) | assumption); have q180 : aa < (l0.length : Int) := of_decide_eq_true (by first | (with_reducible assumption) | assumption); obtain ⟨ad180, e180, au, av, aw⟩ := at_T36 HR0.out aa p180 q180; obtain rfl : ad171 = ad180 := (by injection e180); replace au := (HB.out.cell (World.block_lt_of_cell? w _ au)).trans au; replace av := (HB.out.cell (World.block_lt_of_cell? w _ av)).trans av; replace aw := (HB.out.cell (World.block_lt_of_cell? w _ aw)).trans aw; replace p180 := eq_true p180; replace q180 := eq_true q180) | (go_at_call 25; (with_reducible refine (graftwoodref11_Has.calls k2 _ _ ag ((rd_T36 l0 aa).f1) true _ ?side1 ?side2 A14.out).mono ?_); (case side1 => exact cW (Kd.R_reads' ah.out).2.2); (case side2 => exact (Kd.R_reads' ah.out).2.1); rintro e w' ⟨rfl, ⟨nd, rfl⟩⟩))
           go_roundg k2
           case measure => have := HK1.out; have := HK2.out; omega
           case rel => exact ⟨(ag), (az), (wrap64 (aa + 1)), (by first | rfl | (simp; done) | (simp [*]; done)), (by first | rfl | (simp; done) | (simp [*]; done)), H', ⟨by have := HK1.out; have := HK2.out; omega⟩, ⟨rT ah.out⟩, ⟨eT HB.out⟩⟩
          ·replace c15 := Bool.eq_false_iff.mpr c15
           subst c15
           have H1 : (if ag.length < 17592186044416 then (graftwoodref15_Live.l1 k2 l0 (ag ++ [(rd_T36 l0 aa).f1]) true (wrap64 (aa + 1))) else (none)) = some r := by rw [if_neg (show ¬ (false = true) by decide)] at H; exact H
           clear H
           have H := H1
           clear H1
           by_cases c17 : ag.length < 17592186044416
           ·rw [if_pos c17] at H
            have LMc17 := Aside0.mk c17
            clear c17
            obtain ⟨bb, aN⟩ : ∃ y_ : List Int, y_ = (ag ++ [(rd_T36 l0 aa).f1]) := ⟨_, rfl⟩
            replace H : (graftwoodref15_Live.l1 k2 l0 bb true (wrap64 (aa + 1))) = some r := by first | (rw [aN]; with_reducible exact H) | (have H2_ := (Option.bind_some _ _).symm.trans H; rw [aN]; with_reducible exact H2_) | (have H2_ := (Option.bind_some _ _).symm.trans H; with_reducible exact H2_) | with_reducible exact H | (rw [aN]; exact H) | exact H
            have Ny183 := Aside0.mk aN
            clear aN
            have H' := Aside0.mk H
            clear H
            have p171 : 0 ≤ (aa : Int) := of_decide_eq_true (by first | (with_reducible assumption) | assumption)
            have q171 : aa < (l0.length : Int) := of_decide_eq_true (by first | (with_reducible assumption) | assumption)
            obtain ⟨ad171, e171, ac, ad, ae⟩ := at_T36 HR0.out aa p171 q171
            cases e171
            replace ac := (HB.out.cell (World.block_lt_of_cell? w _ ac)).trans ac
            replace ad := (HB.out.cell (World.block_lt_of_cell? w _ ad)).trans ad
            replace ae := (HB.out.cell (World.block_lt_of_cell? w _ ae)).trans ae
            replace p171 := eq_true p171
            replace q171 := eq_true q171
            have p178 : 0 ≤ (aa : Int) := of_decide_eq_true (by first | (with_reducible assumption) | assumption)
            have q178 : aa < (l0.length : Int) := of_decide_eq_true (by first | (with_reducible assumption) | assumption)
            obtain ⟨ad178, e178, aj, ak, al⟩ := at_T36 HR0.out aa p178 q178
            obtain rfl : ad171 = ad178 := (by injection e178)
            replace aj := (HB.out.cell (World.block_lt_of_cell? w _ aj)).trans aj
            replace ak := (HB.out.cell (World.block_lt_of_cell? w _ ak)).trans ak
            replace al := (HB.out.cell (World.block_lt_of_cell? w _ al)).trans al
            replace p178 := eq_true p178
            replace q178 := eq_true q178
            obtain ⟨bL, bM, bN⟩ := Kd.R_slice ah.out
            subst bN
            go_wp2_with (first | (go_at_call 25; (with_reducible refine (graftwoodref11_Has.calls k2 _ _ ag ((rd_T36 l0 aa).f0) true _ ?side1 ?side2 A12.out).mono ?_); (case side1 => exact cW (Kd.R_reads' ah.out).2.2); (case side2 => exact (Kd.R_reads' ah.out).2.1); rintro e w' ⟨rfl, ⟨nd, rfl⟩⟩; have p180 : 0 ≤ (aa : Int) := of_decide_eq_true (by first | (with_reducible assumption) | assumption); have q180 : aa < (l0.length : Int) := of_decide_eq_true (by first | (with_reducible assumption) | assumption); obtain ⟨ad180, e180, au, av, aw⟩ := at_T36 HR0.out aa p180 q180; obtain rfl : ad171 = ad180 := (by injection e180); replace au := (HB.out.cell (World.block_lt_of_cell? w _ au)).trans au; replace av := (HB.out.cell (World.block_lt_of_cell? w _ av)).trans av; replace aw := (HB.out.cell (World.block_lt_of_cell? w _ aw)).trans aw; replace p180 := eq_true p180; replace q180 := eq_true q180) | (go_at_call 25; (with_reducible refine (graftwoodref11_Has.calls k2 _ _ ag ((rd_T36 l0 aa).f1) false _ ?side1 ?side2 A14.out).mono ?_); (case side1 => exact cW (Kd.R_reads' ah.out).2.2); (case side2 => exact (Kd.R_reads' ah.out).2.1); rintro e w' ⟨rfl, ⟨nd, rfl⟩⟩; have p182 : 0 ≤ (aa : Int) := of_decide_eq_true (by first | (with_reducible assumption) | assumption); have q182 : aa < (l0.length : Int) := of_decide_eq_true (by first | (with_reducible assumption) | assumption); obtain ⟨ad182, e182, aE, aG, aH⟩ := at_T36 HR0.out aa p182 q182; obtain rfl : ad171 = ad182 := (by injection e182); replace aE := (HB.out.cell (World.block_lt_of_cell? w _ aE)).trans aE; replace aG := (HB.out.cell (World.block_lt_of_cell? w _ aG)).trans aG; replace aH := (HB.out.cell (World.block_lt_of_cell? w _ aH)).trans aH; replace p182 := eq_true p182; replace q182 := eq_true q182) | ((with_reducible refine gate_builtin (b := .append) (xs := #[.tmp 38, .tmp 44]) rfl ?_); at_builtin; refine Kd.R_append (Kd.int .i64) (w0 := w) w.heap.size rfl (.tmp 38) (.tmp 44) 23 3 (.int .i64 0) 8 rfl Try.underlying23 info3 rfl (by decide) (by omega) (.slice bL ag.length bM) ag ((rd_T36 l0 aa).f1) [.int .i64 ((rd_T36 l0 aa).f1)] (fun _ => True) (fun _ => False) rfl rfl ?aP (fun _ hk => hk.elim) ?aF ?aO ?aB ?aS ?aL ?_; (case aP => exact rfl); (case aB => exact (eT HB.out)); (case aF => exact (fun _ _ => trivial)); (case aO => exact (rT ah.out)); (case aS => exact (below_size (eT HB.out))); (case aL => have := LMc17.out; omega); intro cf w19 ho hb hg hat; rw [← Ny183.out] at ho; replace HB := am (hb); have bc := am (ho); clear ah ho hb hg hat))
            go_roundg k2
            case measure => have := HK1.out; have := HK2.out; omega
            case rel => exact ⟨(bb), (true), (wrap64 (aa + 1)), (by first | rfl | (simp; done) | (simp [*]; done)), (by first | rfl | (simp; done) | (simp [*]; done)), H', ⟨by have := HK1.out; have := HK2.out; omega⟩, ⟨rT bc.out⟩, ⟨eT HB.out⟩⟩
           ·rw [if_neg c17] at H
            exact absurd H (by simp)
         ·replace c13 := Bool.eq_false_iff.mpr c13
          subst c13
          have H1 : (graftwoodref15_Live.l1 k2 l0 ag az (wrap64 (aa + 1))) = some r := by rw [if_neg (show ¬ (false = true) by decide)] at H; exact H
          clear H
          have H := H1
          clear H1
          have H' := Aside0.mk H
          clear H
          have p171 : 0 ≤ (aa : Int) := of_decide_eq_true (by first | (with_reducible assumption) | assumption)
          have q171 : aa < (l0.length : Int) := of_decide_eq_true (by first | (with_reducible assumption) | assumption)
          obtain ⟨ad171, e171, ac, ad, ae⟩ := at_T36 HR0.out aa p171 q171
          cases e171
          replace ac := (HB.out.cell (World.block_lt_of_cell? w _ ac)).trans ac
          replace ad := (HB.out.cell (World.block_lt_of_cell? w _ ad)).trans ad
          replace ae := (HB.out.cell (World.block_lt_of_cell? w _ ae)).trans ae
          replace p171 := eq_true p171
          replace q171 := eq_true q171
          have p178 : 0 ≤ (aa : Int) := of_decide_eq_true (by first | (with_reducible assumption) | assumption)
          have q178 : aa < (l0.length : Int) := of_decide_eq_true (by first | (with_reducible assumption) | assumption)
          obtain ⟨ad178, e178, aj, ak, al⟩ := at_T36 HR0.out aa p178 q178
          obtain rfl : ad171 = ad178 := (by injection e178)
          replace aj := (HB.out.cell (World.block_lt_of_cell? w _ aj)).trans aj
          replace ak := (HB.out.cell (World.block_lt_of_cell? w _ ak)).trans ak
          replace al := (HB.out.cell (World.block_lt_of_cell? w _ al)).trans al
          replace p178 := eq_true p178
          replace q178 := eq_true q178
          obtain ⟨cg, ch, bO⟩ := Kd.R_slice ah.out
          subst bO
          go_wp2_with (first | (go_at_call 25; (with_reducible refine (graftwoodref11_Has.calls k2 _ _ ag ((rd_T36 l0 aa).f0) false _ ?side1 ?side2 A12.out).mono ?_); (case side1 => exact cW (Kd.R_reads' ah.out).2.2); (case side2 => exact (Kd.R_reads' ah.out).2.1); rintro e w' ⟨rfl, ⟨nd, rfl⟩⟩))
          go_roundg k2
          case measure => have := HK1.out; have := HK2.out; omega
          case rel => exact ⟨(ag), (az), (wrap64 (aa + 1)), (by first | rfl | (simp; done) | (simp [*]; done)), (by first | rfl | (simp; done) | (simp [*]; done)), H', ⟨by have := HK1.out; have := HK2.out; omega⟩, ⟨rT ah.out⟩, ⟨eT HB.out⟩⟩
       ·rw [if_neg c4] at H
        exact absurd H (by simp)
      ·rw [if_neg c3] at H
       have aI : decide (aa < (l0.length : Int)) = false := decide_eq_false c3
       clear c3
       have H' := Aside0.mk H
       clear H
       go_wp2
       go_roundg k2
       case measure => have := HK1.out; have := HK2.out; omega
       case rel => exact ⟨(ag), (az), (by first | rfl | (simp; done) | (simp [*]; done)), H', ⟨by have := HK1.out; have := HK2.out; omega⟩, ⟨rT ah.out⟩, ⟨eT HB.out⟩⟩
   ·replace c2 := Bool.eq_false_iff.mpr c2
    subst c2
    have H1 : ((graftwoodref15_Sorted.f aK).bind fun aQ => (some aQ)) = some r := by rw [if_neg (show ¬ (false = true) by decide)] at H; exact H
    clear H
    have H := H1
    clear H1
    replace H := Option.bind_eq_some_iff.mp H
    obtain ⟨aQ, bd, H⟩ := H
    replace H : (some aQ) = some r := H
    have A21 := Aside0.mk bd
    clear bd
    obtain rfl := Option.some.inj H
    obtain ⟨bP, bQ, bR⟩ := Kd.R_slice ah.out
    subst bR
    go_wp2_with (first | ((with_reducible refine gate_callee (f := 40) rfl ?_); refine gL (some 47) Try.func40 #[.slice bP aK.length bQ] ?_; (with_reducible refine (graftwoodref15_Sorted.calls _ _ aK aQ _ ?side1 ?side2 A21.out).mono ?_); (case side1 => exact cW (Kd.R_reads' ah.out).2.2); (case side2 => exact (Kd.R_reads' ah.out).2.1); rintro e w23 ⟨ci, rfl, ho0, hb⟩; refine ⟨_, rfl, ?_⟩; have be := am (Kd.R_lower (Kd.R_new' ho0 (Kd.R_lt (rT ah.out))) (below_size (eT HB.out))); replace ah := am (Kd.R_elder' (rT ah.out) (Kd.R_base ho0) hb); replace HB := am (sT HB.out hb); (try clear hb); (try clear hb2); (try clear hk); (try clear hi); (try clear ho0)))
    go_ret
    exact ⟨_, by first | rfl | (simp [errW_none, errW_some] <;> rfl) | (simp [*, errW_none, errW_some] <;> rfl), by (with_reducible repeat (first | apply Kd.R_alloc | apply Kd.R_drewN | apply Kd.R_drew)); exact Kd.R_mono be.out (fun _ hk => trivial), eT HB.out⟩

/-! ### graftwoodref11_Ints: function 18 -/
def graftwoodref11_Ints.l0 : Nat → List Int → List Int → Int → Option (Bool)
 | 0, _, _, _ => none
 | k + 1, x0, x1, x5 => if x5 < (x0.length : Int) then (if 0 ≤ x5 then (if x5 < (x1.length : Int) then (if (rd x0 x5) = (rd x1 x5) then (graftwoodref11_Ints.l0 k x0 x1 (wrap64 (x5 + 1))) else (some false)) else (none)) else (none)) else (some true)
def graftwoodref11_Ints.f (k : Nat) (l0 : List Int) (l1 : List Int) : Option (Bool) := if (l0.length : Int) = (l1.length : Int) then (graftwoodref11_Ints.l0 k l0 l1 0) else (some false)
theorem graftwoodref11_Ints.mono_l : ∀ k, (∀ y0 y1 y2, LeO (graftwoodref11_Ints.l0 k y0 y1 y2) (graftwoodref11_Ints.l0 (k + 1) y0 y1 y2))
 | 0 => fun _ _ _ r h => by simp [graftwoodref11_Ints.l0] at h
 | k + 1 => by
  have ih0 := graftwoodref11_Ints.mono_l k
  ·intro y0 y1 y2
   unfold graftwoodref11_Ints.l0
   repeat' first
   | (with_reducible exact ih0 _ _ _)
   | (with_reducible exact LeO.refl _)
   | (with_reducible exact LeO.none _)
   | (with_reducible refine LeO.ite ?_ ?_)
   | (with_reducible refine LeO.bind ?_ (fun _ => ?_))
   | exact ih0 _ _ _
   | exact LeO.none _
   | refine LeO.ite ?_ ?_
   | refine LeO.bind ?_ (fun _ => ?_)
theorem graftwoodref11_Ints.mono : ∀ a0 a1 k, LeO (graftwoodref11_Ints.f k a0 a1) (graftwoodref11_Ints.f (k + 1) a0 a1) := by
 intro a0 a1 k
 have ih0 := graftwoodref11_Ints.mono_l k
 unfold graftwoodref11_Ints.f
 repeat' first
   | (with_reducible exact ih0 _ _ _)
   | (with_reducible exact LeO.refl _)
   | (with_reducible exact LeO.none _)
   | (with_reducible refine LeO.ite ?_ ?_)
   | (with_reducible refine LeO.bind ?_ (fun _ => ?_))
   | exact ih0 _ _ _
   | exact LeO.none _
   | refine LeO.ite ?_ ?_
   | refine LeO.bind ?_ (fun _ => ?_)
set_option maxHeartbeats 8000000 in
set_option maxRecDepth 100000 in
theorem graftwoodref11_Ints.calls (k : Nat) (A0 : Option Addr) (c0 : Nat) (l0 : List Int) (A1 : Option Addr) (c1 : Nat) (l1 : List Int) (r : Bool) (w : World) (hr0 : Kd.C (Kd.int .i64) w A0 l0.length l0) (hc0 : l0.length ≤ c0) (hr1 : Kd.C (Kd.int .i64) w A1 l1.length l1) (hc1 : l1.length ≤ c1) (h : graftwoodref11_Ints.f k l0 l1 = some r) :
  Calls Try.prog 18 #[.slice A0 l0.length c0, .slice A1 l1.length c1] w fun e w' => e = .returned (.bool r) ∧ Drawn0 w w' := by
 have HR0 := Aside0.mk hr0
 have HC0 := Aside0.mk hc0
 clear hr0 hc0
 have HR1 := Aside0.mk hr1
 have HC1 := Aside0.mk hc1
 clear hr1 hc1
 have H : (if (l0.length : Int) = (l1.length : Int) then (graftwoodref11_Ints.l0 k l0 l1 0) else (some false)) = some r := h
 clear h
 by_cases c3 : (l0.length : Int) = (l1.length : Int)
 ·rw [if_pos c3] at H
  have aI : ((l0.length : Int) == (l1.length : Int)) = true := beq_iff_eq.mpr c3
  have bf : ((l0.length : Int) != (l1.length : Int)) = false := bne_eq_false_iff_eq.mpr c3
  have bg : (l0.length == l1.length) = true := by first | simpa using c3 | (simp at c3 ⊢; omega)
  clear c3
  have H' := Aside0.mk H
  clear H
  go_enter Try.func18, Try.ntmps18
  go_wp2
  repeat (go_quiet (fail); try go_wp2)
  go_loopg [5] k (fun kq v5 w' => ∃ (ab : Int), v5 = .int .i64 ab ∧ Aside0 (graftwoodref11_Ints.l0 kq l0 l1 ab = some r) ∧ Aside0 (kq ≤ k) ∧ Drawn0 w w')
  case atStart => exact ⟨(0), (by first | rfl | (simp; done) | (simp [*]; done)), H', ⟨Nat.le_refl _⟩, by repeat (first | exact Drawn0.refl _ | apply Drawn0.step)⟩
  case round =>
   clear H'
   try clear c1
   try clear p2
   try clear c3
   try clear aI
   try clear bf
   try clear bg
   obtain ⟨ab, rfl, HA, HK1, ⟨m1, rfl⟩⟩ := hrel
   cases gk with
   | zero => exact absurd HA.out (by simp [graftwoodref11_Ints.l0])
   | succ k1 =>
    have H := HA.out
    clear HA
    simp only [graftwoodref11_Ints.l0] at H
    by_cases c4 : ab < (l0.length : Int)
    ·rw [if_pos c4] at H
     have a6 : decide (ab < (l0.length : Int)) = true := decide_eq_true c4
     clear c4
     by_cases c5 : 0 ≤ ab
     ·rw [if_pos c5] at H
      have aR : decide (0 ≤ ab) = true := decide_eq_true c5
      clear c5
      by_cases c6 : ab < (l1.length : Int)
      ·rw [if_pos c6] at H
       have cj : decide (ab < (l1.length : Int)) = true := decide_eq_true c6
       clear c6
       by_cases c7 : (rd l0 ab) = (rd l1 ab)
       ·rw [if_pos c7] at H
        have bS : ((rd l0 ab) == (rd l1 ab)) = true := beq_iff_eq.mpr c7
        have bT : ((rd l0 ab) != (rd l1 ab)) = false := bne_eq_false_iff_eq.mpr c7
        clear c7
        have H' := Aside0.mk H
        clear H
        have p186 : 0 ≤ (ab : Int) := of_decide_eq_true (by first | (with_reducible assumption) | assumption)
        have q186 : ab < (l0.length : Int) := of_decide_eq_true (by first | (with_reducible assumption) | assumption)
        obtain ⟨ad186, e186, aY⟩ := Kd.at_int HR0.out ab p186 q186
        cases e186
        replace p186 := eq_true p186
        replace q186 := eq_true q186
        have p187 : 0 ≤ (ab : Int) := of_decide_eq_true (by first | (with_reducible assumption) | assumption)
        have q187 : ab < (l1.length : Int) := of_decide_eq_true (by first | (with_reducible assumption) | assumption)
        obtain ⟨ad187, e187, aZ⟩ := Kd.at_int HR1.out ab p187 q187
        cases e187
        replace p187 := eq_true p187
        replace q187 := eq_true q187
        go_wp2
        repeat (go_quiet (fail); try go_wp2)
        go_roundg k1
        case measure => have := HK1.out; omega
        case rel => exact ⟨(wrap64 (ab + 1)), (by first | rfl | (simp; done) | (simp [*]; done)), H', ⟨by have := HK1.out; omega⟩, by repeat (first | exact Drawn0.refl _ | apply Drawn0.step)⟩
       ·rw [if_neg c7] at H
        have bS : ((rd l0 ab) == (rd l1 ab)) = false := beq_eq_false_iff_ne.mpr c7
        have bT : ((rd l0 ab) != (rd l1 ab)) = true := bne_iff_ne.mpr c7
        obtain rfl := Option.some.inj H
        have p186 : 0 ≤ (ab : Int) := of_decide_eq_true (by first | (with_reducible assumption) | assumption)
        have q186 : ab < (l0.length : Int) := of_decide_eq_true (by first | (with_reducible assumption) | assumption)
        obtain ⟨ad186, e186, aY⟩ := Kd.at_int HR0.out ab p186 q186
        cases e186
        replace p186 := eq_true p186
        replace q186 := eq_true q186
        have p187 : 0 ≤ (ab : Int) := of_decide_eq_true (by first | (with_reducible assumption) | assumption)
        have q187 : ab < (l1.length : Int) := of_decide_eq_true (by first | (with_reducible assumption) | assumption)
        obtain ⟨ad187, e187, aZ⟩ := Kd.at_int HR1.out ab p187 q187
        cases e187
        replace p187 := eq_true p187
        replace q187 := eq_true q187
        go_wp2
        repeat (go_quiet (fail); try go_wp2)
        go_ret
        exact ⟨by first | rfl | (simp; done) | (simp [*]; done), by repeat (first | exact Drawn0.refl _ | apply Drawn0.step)⟩
      ·rw [if_neg c6] at H
       exact absurd H (by simp)
     ·rw [if_neg c5] at H
      exact absurd H (by simp)
    ·rw [if_neg c4] at H
     have a6 : decide (ab < (l0.length : Int)) = false := decide_eq_false c4
     clear c4
     obtain rfl := Option.some.inj H
     go_wp2
     repeat (go_quiet (fail); try go_wp2)
     go_ret
     exact ⟨by first | rfl | (simp; done) | (simp [*]; done), by repeat (first | exact Drawn0.refl _ | apply Drawn0.step)⟩
 ·rw [if_neg c3] at H
  have aI : ((l0.length : Int) == (l1.length : Int)) = false := beq_eq_false_iff_ne.mpr c3
  have bf : ((l0.length : Int) != (l1.length : Int)) = true := bne_iff_ne.mpr c3
  have bg : (l0.length == l1.length) = false := by first | simpa using c3 | (simp at c3 ⊢; omega)
  obtain rfl := Option.some.inj H
  go_enter Try.func18, Try.ntmps18
  go_wp2
  repeat (go_quiet (fail); try go_wp2)
  go_ret
  exact ⟨by first | rfl | (simp; done) | (simp [*]; done), by repeat (first | exact Drawn0.refl _ | apply Drawn0.step)⟩

/-! ### graftwoodref11_Less: function 39 -/
def graftwoodref11_Less.f (a0_0 : Int) (a0_1 : Int) (a0_2 : Int) (a1_0 : Int) (a1_1 : Int) (a1_2 : Int) : Option (Bool) := if a0_0 < a1_0 then (some true) else (if a0_0 = a1_0 then (some (decide (a0_1 < a1_1))) else (some false))
set_option maxHeartbeats 8000000 in
set_option maxRecDepth 100000 in
theorem graftwoodref11_Less.calls (a0_0 : Int) (a0_1 : Int) (a0_2 : Int) (a1_0 : Int) (a1_1 : Int) (a1_2 : Int) (r : Bool) (w : World) (h : graftwoodref11_Less.f a0_0 a0_1 a0_2 a1_0 a1_1 a1_2 = some r) :
  Calls Try.prog 39 #[.agg #[.int .i64 a0_0, .int .i64 a0_1, .int .i64 a0_2], .agg #[.int .i64 a1_0, .int .i64 a1_1, .int .i64 a1_2]] w fun e w' => e = .returned (.bool r) ∧ Below w.heap.size w w' := by
 have hu36 := Try.underlying36
 have HB := am (Below.refl w.heap.size w)
 have H : (if a0_0 < a1_0 then (some true) else (if a0_0 = a1_0 then (some (decide (a0_1 < a1_1))) else (some false))) = some r := h
 clear h
 by_cases c3 : a0_0 < a1_0
 ·rw [if_pos c3] at H
  have aI : decide (a0_0 < a1_0) = true := decide_eq_true c3
  clear c3
  obtain rfl := Option.some.inj H
  go_enter Try.func39, Try.ntmps39
  go_wp2_with (first | ((with_reducible refine gate_dst (N := 2) rfl ?_); refine box_event ?hg (N := 2) ?hd (cs := #[.int .i64 a0_0, .int .i64 a0_1, .int .i64 a0_2]) (t := 36) ?hr ?_; (case hd => rfl); (case hg => rfl); (case hr => first | (go_simp; done) | (go_simp; rfl)); intro ax hg w4 hbox hb; have af := am (hbox); have a2 := am ((gT hg HB.out)); have a3 := am ((gT hg HB.out)); replace HB := am (sT HB.out hb); clear hb hbox hg) | ((with_reducible refine gate_dst (N := 3) rfl ?_); refine box_event ?hg (N := 3) ?hd (cs := #[.int .i64 a1_0, .int .i64 a1_1, .int .i64 a1_2]) (t := 36) ?hr ?_; (case hd => rfl); (case hg => rfl); (case hr => first | (go_simp; done) | (go_simp; rfl)); intro ay hg w5 hbox hb; have ai := am (hbox); have a4 := am ((gT hg HB.out)); have a5 := am ((gT hg HB.out)); have an := am ((nT af.out hg)); have ao := am ((mT af.out hg)); replace af := am (bB af.out hb); replace HB := am (sT HB.out hb); clear hb hbox hg; have ck := an.out; have cl := ao.out; have bU : w5.cell? ⟨ax, 0, none⟩ = some (.int .i64 a0_0) := cT af 0; have bV : w5.cell? ⟨ax, 1, none⟩ = some (.int .i64 a0_1) := cT af 1; have bW : w5.cell? ⟨ax, 2, none⟩ = some (.int .i64 a0_2) := cT af 2; have bX := blk_frozen af.out 0; have bZ := blk_frozen af.out 1; have b0 := blk_frozen af.out 2; have b1 : w5.cell? ⟨ay, 0, none⟩ = some (.int .i64 a1_0) := cT ai 0; have b2 : w5.cell? ⟨ay, 1, none⟩ = some (.int .i64 a1_1) := cT ai 1; have b3 : w5.cell? ⟨ay, 2, none⟩ = some (.int .i64 a1_2) := cT ai 2; have b4 := blk_frozen ai.out 0; have b5 := blk_frozen ai.out 1; have b6 := blk_frozen ai.out 2))
  go_ret
  exact ⟨by first | rfl | (simp [errW_none, errW_some] <;> rfl) | (simp [*, errW_none, errW_some] <;> rfl), eT HB.out⟩
 ·rw [if_neg c3] at H
  have aI : decide (a0_0 < a1_0) = false := decide_eq_false c3
  clear c3
  by_cases c9 : a0_0 = a1_0
  ·rw [if_pos c9] at H
   have b7 : (a0_0 == a1_0) = true := beq_iff_eq.mpr c9
   have b8 : (a0_0 != a1_0) = false := bne_eq_false_iff_eq.mpr c9
   clear c9
   obtain rfl := Option.some.inj H
   go_enter Try.func39, Try.ntmps39
   go_wp2_with (first | ((with_reducible refine gate_dst (N := 2) rfl ?_); refine box_event ?hg (N := 2) ?hd (cs := #[.int .i64 a0_0, .int .i64 a0_1, .int .i64 a0_2]) (t := 36) ?hr ?_; (case hd => rfl); (case hg => rfl); (case hr => first | (go_simp; done) | (go_simp; rfl)); intro ax hg w10 hbox hb; have af := am (hbox); have a2 := am ((gT hg HB.out)); have a3 := am ((gT hg HB.out)); replace HB := am (sT HB.out hb); clear hb hbox hg) | ((with_reducible refine gate_dst (N := 3) rfl ?_); refine box_event ?hg (N := 3) ?hd (cs := #[.int .i64 a1_0, .int .i64 a1_1, .int .i64 a1_2]) (t := 36) ?hr ?_; (case hd => rfl); (case hg => rfl); (case hr => first | (go_simp; done) | (go_simp; rfl)); intro ay hg w11 hbox hb; have ai := am (hbox); have a4 := am ((gT hg HB.out)); have a5 := am ((gT hg HB.out)); have an := am ((nT af.out hg)); have ao := am ((mT af.out hg)); replace af := am (bB af.out hb); replace HB := am (sT HB.out hb); clear hb hbox hg; have b9 := an.out; have b_ := ao.out; have bh : w11.cell? ⟨ax, 0, none⟩ = some (.int .i64 a0_0) := cT af 0; have bi : w11.cell? ⟨ax, 1, none⟩ = some (.int .i64 a0_1) := cT af 1; have bj : w11.cell? ⟨ax, 2, none⟩ = some (.int .i64 a0_2) := cT af 2; have bk := blk_frozen af.out 0; have bl := blk_frozen af.out 1; have bm := blk_frozen af.out 2; have bn : w11.cell? ⟨ay, 0, none⟩ = some (.int .i64 a1_0) := cT ai 0; have bo : w11.cell? ⟨ay, 1, none⟩ = some (.int .i64 a1_1) := cT ai 1; have bp : w11.cell? ⟨ay, 2, none⟩ = some (.int .i64 a1_2) := cT ai 2; have bq := blk_frozen ai.out 0; have br := blk_frozen ai.out 1; have bs := blk_frozen ai.out 2))
   go_ret
   exact ⟨by first | rfl | (simp [errW_none, errW_some] <;> rfl) | (simp [*, errW_none, errW_some] <;> rfl), eT HB.out⟩
  ·rw [if_neg c9] at H
   have b7 : (a0_0 == a1_0) = false := beq_eq_false_iff_ne.mpr c9
   have b8 : (a0_0 != a1_0) = true := bne_iff_ne.mpr c9
   obtain rfl := Option.some.inj H
   go_enter Try.func39, Try.ntmps39
   go_wp2_with (first | ((with_reducible refine gate_dst (N := 2) rfl ?_); refine box_event ?hg (N := 2) ?hd (cs := #[.int .i64 a0_0, .int .i64 a0_1, .int .i64 a0_2]) (t := 36) ?hr ?_; (case hd => rfl); (case hg => rfl); (case hr => first | (go_simp; done) | (go_simp; rfl)); intro ax hg w15 hbox hb; have af := am (hbox); have a2 := am ((gT hg HB.out)); have a3 := am ((gT hg HB.out)); replace HB := am (sT HB.out hb); clear hb hbox hg) | ((with_reducible refine gate_dst (N := 3) rfl ?_); refine box_event ?hg (N := 3) ?hd (cs := #[.int .i64 a1_0, .int .i64 a1_1, .int .i64 a1_2]) (t := 36) ?hr ?_; (case hd => rfl); (case hg => rfl); (case hr => first | (go_simp; done) | (go_simp; rfl)); intro ay hg w16 hbox hb; have ai := am (hbox); have a4 := am ((gT hg HB.out)); have a5 := am ((gT hg HB.out)); have an := am ((nT af.out hg)); have ao := am ((mT af.out hg)); replace af := am (bB af.out hb); replace HB := am (sT HB.out hb); clear hb hbox hg; have ca := an.out; have cb := ao.out; have bt : w16.cell? ⟨ax, 0, none⟩ = some (.int .i64 a0_0) := cT af 0; have bu : w16.cell? ⟨ax, 1, none⟩ = some (.int .i64 a0_1) := cT af 1; have bv : w16.cell? ⟨ax, 2, none⟩ = some (.int .i64 a0_2) := cT af 2; have bw := blk_frozen af.out 0; have bx := blk_frozen af.out 1; have bz := blk_frozen af.out 2; have bA : w16.cell? ⟨ay, 0, none⟩ = some (.int .i64 a1_0) := cT ai 0; have bC : w16.cell? ⟨ay, 1, none⟩ = some (.int .i64 a1_1) := cT ai 1; have bD : w16.cell? ⟨ay, 2, none⟩ = some (.int .i64 a1_2) := cT ai 2; have bE := blk_frozen ai.out 0; have bF := blk_frozen ai.out 1; have bG := blk_frozen ai.out 2))
   go_ret
   exact ⟨by first | rfl | (simp [errW_none, errW_some] <;> rfl) | (simp [*, errW_none, errW_some] <;> rfl), eT HB.out⟩

end Go.Proofs.Ytpiamehededilaa.P
