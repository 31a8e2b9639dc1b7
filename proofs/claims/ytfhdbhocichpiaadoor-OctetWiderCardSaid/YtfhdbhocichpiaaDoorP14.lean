-- Written by this project's own program (wip/tools/hp.py), driving the kit's print; hand texts among it. Not trusted: Lean checks it.
import Derived.Test.YtfhdbhocichpiaaDoorP0
import Derived.Test.YtfhdbhocichpiaaDoorP4
namespace Go.Proofs.YtfhdbhocichpiaaDoor.P
open Go.RowKit Go.Proofs.YtfhdbhocichpiaaDoorW.PrintWords Go.Proofs.YtfhdbhocichpiaaDoorW.PrintLast Go.Proofs.YtfhdbhocichpiaaDoorW.PrintMore
attribute [local go_sem] max2_int min2_int max_two min_two max_three min_three max_four min_four   -- for this text's walks alone
set_option linter.unusedVariables false
set_option linter.unusedSimpArgs false

/-! ### graftwoodref01_Class: function 20 -/
mutual
def graftwoodref01_Class.j0 : Nat → Int → Bool → Option (Int)
  | 0, _, _ => none
  | k + 1, x3, x11 => if x11 = true then (some 1) else (if x3 ≥ 65 then (if x3 ≤ 90 then (graftwoodref01_Class.j1 k x3 true) else (if x3 ≥ 97 then (graftwoodref01_Class.j1 k x3 (decide (x3 ≤ 122))) else (graftwoodref01_Class.j1 k x3 false))) else (if x3 ≥ 97 then (graftwoodref01_Class.j1 k x3 (decide (x3 ≤ 122))) else (graftwoodref01_Class.j1 k x3 false)))
def graftwoodref01_Class.j1 : Nat → Int → Bool → Option (Int)
  | 0, _, _ => none
  | k + 1, x3, x25 => if x25 = true then (some 2) else (if x3 = 45 then (graftwoodref01_Class.j2 k x3 true) else (if x3 = 46 then (graftwoodref01_Class.j2 k x3 true) else (if x3 = 95 then (graftwoodref01_Class.j2 k x3 true) else (graftwoodref01_Class.j2 k x3 (x3 == 126)))))
def graftwoodref01_Class.j2 : Nat → Int → Bool → Option (Int)
  | 0, _, _ => none
  | k + 1, x3, x39 => if x39 = true then (some 3) else (if x3 = 47 then (some 4) else (if x3 = 32 then (graftwoodref01_Class.j3 k x3 (x3 == 32)) else (graftwoodref01_Class.j3 k x3 (x3 == 9))))
def graftwoodref01_Class.j3 : Nat → Int → Bool → Option (Int)
  | 0, _, _ => none
  | k + 1, x40, x43 => if x43 = true then (some 5) else (if x40 = 10 then (some 6) else (if x40 = 34 then (some 7) else (if x40 = 40 then (some 8) else (if x40 = 41 then (some 9) else (some 0)))))
end
def graftwoodref01_Class.f (k : Nat) (a0 : Int) : Option (Int) := if (wrap64 (a0)) ≥ 48 then (graftwoodref01_Class.j0 k (wrap64 (a0)) (decide ((wrap64 (a0)) ≤ 57))) else (graftwoodref01_Class.j0 k (wrap64 (a0)) false)
theorem graftwoodref01_Class.mono_l : ∀ k, (∀ y0 y1, LeO (graftwoodref01_Class.j0 k y0 y1) (graftwoodref01_Class.j0 (k + 1) y0 y1)) ∧ (∀ y0 y1, LeO (graftwoodref01_Class.j1 k y0 y1) (graftwoodref01_Class.j1 (k + 1) y0 y1)) ∧ (∀ y0 y1, LeO (graftwoodref01_Class.j2 k y0 y1) (graftwoodref01_Class.j2 (k + 1) y0 y1)) ∧ (∀ y0 y1, LeO (graftwoodref01_Class.j3 k y0 y1) (graftwoodref01_Class.j3 (k + 1) y0 y1))
  | 0 => ⟨fun _ _ r h => by simp [graftwoodref01_Class.j0] at h, fun _ _ r h => by simp [graftwoodref01_Class.j1] at h, fun _ _ r h => by simp [graftwoodref01_Class.j2] at h, fun _ _ r h => by simp [graftwoodref01_Class.j3] at h⟩
  | k + 1 => by
    obtain ⟨ih0, ih1, ih2, ih3⟩ := graftwoodref01_Class.mono_l k
    refine ⟨?_, ?_, ?_, ?_⟩
    · intro y0 y1
      unfold graftwoodref01_Class.j0
      repeat' first
      | (with_reducible exact ih0 _ _)
      | (with_reducible exact ih1 _ _)
      | (with_reducible exact ih2 _ _)
      | (with_reducible exact ih3 _ _)
      | (with_reducible exact LeO.refl _)
      | (with_reducible exact LeO.none _)
      | (with_reducible refine LeO.ite ?_ ?_)
      | (with_reducible refine LeO.bind ?_ (fun _ => ?_))
      | exact ih0 _ _
      | exact ih1 _ _
      | exact ih2 _ _
      | exact ih3 _ _
      | exact LeO.none _
      | refine LeO.ite ?_ ?_
      | refine LeO.bind ?_ (fun _ => ?_)
    · intro y0 y1
      unfold graftwoodref01_Class.j1
      repeat' first
      | (with_reducible exact ih0 _ _)
      | (with_reducible exact ih1 _ _)
      | (with_reducible exact ih2 _ _)
      | (with_reducible exact ih3 _ _)
      | (with_reducible exact LeO.refl _)
      | (with_reducible exact LeO.none _)
      | (with_reducible refine LeO.ite ?_ ?_)
      | (with_reducible refine LeO.bind ?_ (fun _ => ?_))
      | exact ih0 _ _
      | exact ih1 _ _
      | exact ih2 _ _
      | exact ih3 _ _
      | exact LeO.none _
      | refine LeO.ite ?_ ?_
      | refine LeO.bind ?_ (fun _ => ?_)
    · intro y0 y1
      unfold graftwoodref01_Class.j2
      repeat' first
      | (with_reducible exact ih0 _ _)
      | (with_reducible exact ih1 _ _)
      | (with_reducible exact ih2 _ _)
      | (with_reducible exact ih3 _ _)
      | (with_reducible exact LeO.refl _)
      | (with_reducible exact LeO.none _)
      | (with_reducible refine LeO.ite ?_ ?_)
      | (with_reducible refine LeO.bind ?_ (fun _ => ?_))
      | exact ih0 _ _
      | exact ih1 _ _
      | exact ih2 _ _
      | exact ih3 _ _
      | exact LeO.none _
      | refine LeO.ite ?_ ?_
      | refine LeO.bind ?_ (fun _ => ?_)
    · intro y0 y1
      unfold graftwoodref01_Class.j3
      repeat' first
      | (with_reducible exact ih0 _ _)
      | (with_reducible exact ih1 _ _)
      | (with_reducible exact ih2 _ _)
      | (with_reducible exact ih3 _ _)
      | (with_reducible exact LeO.refl _)
      | (with_reducible exact LeO.none _)
      | (with_reducible refine LeO.ite ?_ ?_)
      | (with_reducible refine LeO.bind ?_ (fun _ => ?_))
      | exact ih0 _ _
      | exact ih1 _ _
      | exact ih2 _ _
      | exact ih3 _ _
      | exact LeO.none _
      | refine LeO.ite ?_ ?_
      | refine LeO.bind ?_ (fun _ => ?_)
theorem graftwoodref01_Class.mono : ∀ a0 k, LeO (graftwoodref01_Class.f k a0) (graftwoodref01_Class.f (k + 1) a0) := by
  intro a0 k
  obtain ⟨ih0, ih1, ih2, ih3⟩ := graftwoodref01_Class.mono_l k
  unfold graftwoodref01_Class.f
  repeat' first
      | (with_reducible exact ih0 _ _)
      | (with_reducible exact ih1 _ _)
      | (with_reducible exact ih2 _ _)
      | (with_reducible exact ih3 _ _)
      | (with_reducible exact LeO.refl _)
      | (with_reducible exact LeO.none _)
      | (with_reducible refine LeO.ite ?_ ?_)
      | (with_reducible refine LeO.bind ?_ (fun _ => ?_))
      | exact ih0 _ _
      | exact ih1 _ _
      | exact ih2 _ _
      | exact ih3 _ _
      | exact LeO.none _
      | refine LeO.ite ?_ ?_
      | refine LeO.bind ?_ (fun _ => ?_)
set_option maxHeartbeats 8000000 in
set_option maxRecDepth 100000 in
theorem graftwoodref01_Class.calls (k : Nat) (a0 : Int) (r : Int) (w : World) (h : graftwoodref01_Class.f k a0 = some r) :
    Calls Tryd.prog 20 #[.int .u8 a0] w fun e w' => e = .returned (.int .i64 r) ∧ Drawn0 w w' := by
  have H : (if (wrap64 (a0)) ≥ 48 then (graftwoodref01_Class.j0 k (wrap64 (a0)) (decide ((wrap64 (a0)) ≤ 57))) else (graftwoodref01_Class.j0 k (wrap64 (a0)) false)) = some r := h
  clear h
  have HC2 := Aside0.mk H
  clear H
  go_enter Tryd.func20, Tryd.ntmps20
  go_upto_region 2 with (fail)
  go_cut [11] (fun v11 wc => ∃ (kq : Nat) (x11_1 : Bool), v11 = .bool x11_1 ∧ Aside0 (graftwoodref01_Class.j0 kq (wrap64 (a0)) x11_1 = some r) ∧ Aside0 (kq ≤ k) ∧ Drawn0 w wc)
  case first =>
    have H := HC2.out
    clear HC2
    by_cases c3 : (wrap64 (a0)) ≥ 48
    · rw [if_pos c3] at H
      have c3b0 : decide (48 ≤ (wrap64 (a0))) = true := decide_eq_true c3
      clear c3
      (first | rw [c3b0] | (simp only [i64_w, i32_w]; rw [c3b0]) | skip)
      have H' := Aside0.mk H
      clear H
      go_wp2
      go_meet
      case rel => exact ⟨_, (decide ((wrap64 (a0)) ≤ 57)), (by first | rfl | (simp; done) | (simp [*]; done)), H', ⟨by first | omega | exact Nat.le_refl _⟩, by repeat (first | exact Drawn0.refl _ | apply Drawn0.step)⟩
    · rw [if_neg c3] at H
      have c3b0 : decide (48 ≤ (wrap64 (a0))) = false := decide_eq_false c3
      clear c3
      (first | rw [c3b0] | (simp only [i64_w, i32_w]; rw [c3b0]) | skip)
      have H' := Aside0.mk H
      clear H
      go_wp2
      go_meet
      case rel => exact ⟨_, (false), (by first | rfl | (simp; done) | (simp [*]; done)), H', ⟨by first | omega | exact Nat.le_refl _⟩, by repeat (first | exact Drawn0.refl _ | apply Drawn0.step)⟩
  case rest =>
    clear HC2
    try clear c2
    try clear p2
    try clear c3
    try clear c3b0
    obtain ⟨kq, x11_1, rfl, HA, HJ1, ⟨mc1, rfl⟩⟩ := hcut
    cases kq with
    | zero => exact absurd HA.out (by simp [graftwoodref01_Class.j0])
    | succ kj1 =>
      have H := HA.out
      clear HA
      simp only [graftwoodref01_Class.j0] at H
      by_cases c4 : x11_1 = true
      · subst c4
        have H1 : (some 1) = some r := by rw [if_pos rfl] at H; exact H
        clear H
        have H := H1
        clear H1
        obtain rfl := Option.some.inj H
        go_wp2
        go_ret
        exact ⟨by first | rfl | (simp; done) | (simp [*]; done), by repeat (first | exact Drawn0.refl _ | apply Drawn0.step)⟩
      · replace c4 := Bool.eq_false_iff.mpr c4
        subst c4
        have H1 : (if (wrap64 (a0)) ≥ 65 then (if (wrap64 (a0)) ≤ 90 then (graftwoodref01_Class.j1 kj1 (wrap64 (a0)) true) else (if (wrap64 (a0)) ≥ 97 then (graftwoodref01_Class.j1 kj1 (wrap64 (a0)) (decide ((wrap64 (a0)) ≤ 122))) else (graftwoodref01_Class.j1 kj1 (wrap64 (a0)) false))) else (if (wrap64 (a0)) ≥ 97 then (graftwoodref01_Class.j1 kj1 (wrap64 (a0)) (decide ((wrap64 (a0)) ≤ 122))) else (graftwoodref01_Class.j1 kj1 (wrap64 (a0)) false))) = some r := by rw [if_neg (show ¬ (false = true) by decide)] at H; exact H
        clear H
        have H := H1
        clear H1
        have HC5 := Aside0.mk H
        clear H
        go_upto_region 4 with (fail)
        go_cut [25] (fun v25 wc => ∃ (kq : Nat) (x25_4 : Bool), v25 = .bool x25_4 ∧ Aside0 (graftwoodref01_Class.j1 kq (wrap64 (a0)) x25_4 = some r) ∧ Aside0 (kq ≤ kj1) ∧ Drawn0 w wc)
        case first =>
          have H := HC5.out
          clear HC5
          by_cases c6 : (wrap64 (a0)) ≥ 65
          · rw [if_pos c6] at H
            have c6b0 : decide (65 ≤ (wrap64 (a0))) = true := decide_eq_true c6
            clear c6
            (first | rw [c6b0] | (simp only [i64_w, i32_w]; rw [c6b0]) | skip)
            by_cases c7 : (wrap64 (a0)) ≤ 90
            · rw [if_pos c7] at H
              have c7b0 : decide ((wrap64 (a0)) ≤ 90) = true := decide_eq_true c7
              clear c7
              have H' := Aside0.mk H
              clear H
              go_wp2
              go_meet
              case rel => exact ⟨_, (true), (by first | rfl | (simp; done) | (simp [*]; done)), H', ⟨by have := HJ1.out; first | omega | exact Nat.le_refl _⟩, by repeat (first | exact Drawn0.refl _ | apply Drawn0.step)⟩
            · rw [if_neg c7] at H
              have c7b0 : decide ((wrap64 (a0)) ≤ 90) = false := decide_eq_false c7
              clear c7
              by_cases c8 : (wrap64 (a0)) ≥ 97
              · rw [if_pos c8] at H
                have c8b0 : decide (97 ≤ (wrap64 (a0))) = true := decide_eq_true c8
                clear c8
                have H' := Aside0.mk H
                clear H
                go_wp2
                go_meet
                case rel => exact ⟨_, (decide ((wrap64 (a0)) ≤ 122)), (by first | rfl | (simp; done) | (simp [*]; done)), H', ⟨by have := HJ1.out; first | omega | exact Nat.le_refl _⟩, by repeat (first | exact Drawn0.refl _ | apply Drawn0.step)⟩
              · rw [if_neg c8] at H
                have c8b0 : decide (97 ≤ (wrap64 (a0))) = false := decide_eq_false c8
                clear c8
                have H' := Aside0.mk H
                clear H
                go_wp2
                go_meet
                case rel => exact ⟨_, (false), (by first | rfl | (simp; done) | (simp [*]; done)), H', ⟨by have := HJ1.out; first | omega | exact Nat.le_refl _⟩, by repeat (first | exact Drawn0.refl _ | apply Drawn0.step)⟩
          · rw [if_neg c6] at H
            have c6b0 : decide (65 ≤ (wrap64 (a0))) = false := decide_eq_false c6
            clear c6
            (first | rw [c6b0] | (simp only [i64_w, i32_w]; rw [c6b0]) | skip)
            by_cases c9 : (wrap64 (a0)) ≥ 97
            · rw [if_pos c9] at H
              have c9b0 : decide (97 ≤ (wrap64 (a0))) = true := decide_eq_true c9
              clear c9
              have H' := Aside0.mk H
              clear H
              go_wp2
              go_meet
              case rel => exact ⟨_, (decide ((wrap64 (a0)) ≤ 122)), (by first | rfl | (simp; done) | (simp [*]; done)), H', ⟨by have := HJ1.out; first | omega | exact Nat.le_refl _⟩, by repeat (first | exact Drawn0.refl _ | apply Drawn0.step)⟩
            · rw [if_neg c9] at H
              have c9b0 : decide (97 ≤ (wrap64 (a0))) = false := decide_eq_false c9
              clear c9
              have H' := Aside0.mk H
              clear H
              go_wp2
              go_meet
              case rel => exact ⟨_, (false), (by first | rfl | (simp; done) | (simp [*]; done)), H', ⟨by have := HJ1.out; first | omega | exact Nat.le_refl _⟩, by repeat (first | exact Drawn0.refl _ | apply Drawn0.step)⟩
        case rest =>
          clear HC5
          try clear c1
          try clear c2
          try clear p2
          try clear c3
          try clear c3b0
          try clear c4
          try clear c6
          try clear c6b0
          try clear p6
          try clear c7
          try clear c7b0
          try clear c8
          try clear c8b0
          try clear c9
          try clear c9b0
          try clear p2
          obtain ⟨kq, x25_4, rfl, HA, HJ4, ⟨mc4, rfl⟩⟩ := hcut
          cases kq with
          | zero => exact absurd HA.out (by simp [graftwoodref01_Class.j1])
          | succ kj4 =>
            have H := HA.out
            clear HA
            simp only [graftwoodref01_Class.j1] at H
            by_cases c10 : x25_4 = true
            · subst c10
              have H1 : (some 2) = some r := by rw [if_pos rfl] at H; exact H
              clear H
              have H := H1
              clear H1
              obtain rfl := Option.some.inj H
              go_wp2
              go_ret
              exact ⟨by first | rfl | (simp; done) | (simp [*]; done), by repeat (first | exact Drawn0.refl _ | apply Drawn0.step)⟩
            · replace c10 := Bool.eq_false_iff.mpr c10
              subst c10
              have H1 : (if (wrap64 (a0)) = 45 then (graftwoodref01_Class.j2 kj4 (wrap64 (a0)) true) else (if (wrap64 (a0)) = 46 then (graftwoodref01_Class.j2 kj4 (wrap64 (a0)) true) else (if (wrap64 (a0)) = 95 then (graftwoodref01_Class.j2 kj4 (wrap64 (a0)) true) else (graftwoodref01_Class.j2 kj4 (wrap64 (a0)) ((wrap64 (a0)) == 126))))) = some r := by rw [if_neg (show ¬ (false = true) by decide)] at H; exact H
              clear H
              have H := H1
              clear H1
              have HC11 := Aside0.mk H
              clear H
              go_upto_region 6 with (fail)
              go_cut [39] (fun v39 wc => ∃ (kq : Nat) (x39_10 : Bool), v39 = .bool x39_10 ∧ Aside0 (graftwoodref01_Class.j2 kq (wrap64 (a0)) x39_10 = some r) ∧ Aside0 (kq ≤ kj4) ∧ Drawn0 w wc)
              case first =>
                have H := HC11.out
                clear HC11
                by_cases c12 : (wrap64 (a0)) = 45
                · rw [if_pos c12] at H
                  have c12b0 : ((wrap64 (a0)) == 45) = true := beq_iff_eq.mpr c12
                  have c12b1 : ((wrap64 (a0)) != 45) = false := bne_eq_false_iff_eq.mpr c12
                  clear c12
                  (first | rw [c12b0] | (simp only [i64_w, i32_w]; rw [c12b0]) | skip)
                  have H' := Aside0.mk H
                  clear H
                  go_wp2
                  go_meet
                  case rel => exact ⟨_, (true), (by first | rfl | (simp; done) | (simp [*]; done)), H', ⟨by have := HJ1.out; have := HJ4.out; first | omega | exact Nat.le_refl _⟩, by repeat (first | exact Drawn0.refl _ | apply Drawn0.step)⟩
                · rw [if_neg c12] at H
                  have c12b0 : ((wrap64 (a0)) == 45) = false := beq_eq_false_iff_ne.mpr c12
                  have c12b1 : ((wrap64 (a0)) != 45) = true := bne_iff_ne.mpr c12
                  (first | rw [c12b0] | (simp only [i64_w, i32_w]; rw [c12b0]) | skip)
                  by_cases c13 : (wrap64 (a0)) = 46
                  · rw [if_pos c13] at H
                    have c13b0 : ((wrap64 (a0)) == 46) = true := beq_iff_eq.mpr c13
                    have c13b1 : ((wrap64 (a0)) != 46) = false := bne_eq_false_iff_eq.mpr c13
                    clear c13
                    have H' := Aside0.mk H
                    clear H
                    go_wp2
                    go_meet
                    case rel => exact ⟨_, (true), (by first | rfl | (simp; done) | (simp [*]; done)), H', ⟨by have := HJ1.out; have := HJ4.out; first | omega | exact Nat.le_refl _⟩, by repeat (first | exact Drawn0.refl _ | apply Drawn0.step)⟩
                  · rw [if_neg c13] at H
                    have c13b0 : ((wrap64 (a0)) == 46) = false := beq_eq_false_iff_ne.mpr c13
                    have c13b1 : ((wrap64 (a0)) != 46) = true := bne_iff_ne.mpr c13
                    by_cases c14 : (wrap64 (a0)) = 95
                    · rw [if_pos c14] at H
                      have c14b0 : ((wrap64 (a0)) == 95) = true := beq_iff_eq.mpr c14
                      have c14b1 : ((wrap64 (a0)) != 95) = false := bne_eq_false_iff_eq.mpr c14
                      clear c14
                      have H' := Aside0.mk H
                      clear H
                      go_wp2
                      go_meet
                      case rel => exact ⟨_, (true), (by first | rfl | (simp; done) | (simp [*]; done)), H', ⟨by have := HJ1.out; have := HJ4.out; first | omega | exact Nat.le_refl _⟩, by repeat (first | exact Drawn0.refl _ | apply Drawn0.step)⟩
                    · rw [if_neg c14] at H
                      have c14b0 : ((wrap64 (a0)) == 95) = false := beq_eq_false_iff_ne.mpr c14
                      have c14b1 : ((wrap64 (a0)) != 95) = true := bne_iff_ne.mpr c14
                      have H' := Aside0.mk H
                      clear H
                      go_wp2
                      go_meet
                      case rel => exact ⟨_, (((wrap64 (a0)) == 126)), (by first | rfl | (simp; done) | (simp [*]; done)), H', ⟨by have := HJ1.out; have := HJ4.out; first | omega | exact Nat.le_refl _⟩, by repeat (first | exact Drawn0.refl _ | apply Drawn0.step)⟩
              case rest =>
                clear HC11
                try clear c1
                try clear c2
                try clear p2
                try clear c3
                try clear c3b0
                try clear c4
                try clear c6
                try clear c6b0
                try clear p6
                try clear c7
                try clear c7b0
                try clear c8
                try clear c8b0
                try clear c9
                try clear c9b0
                try clear c10
                try clear c12
                try clear c12b0
                try clear c12b1
                try clear c13
                try clear c13b0
                try clear c13b1
                try clear c14
                try clear c14b0
                try clear c14b1
                try clear p2
                try clear p6
                obtain ⟨kq, x39_10, rfl, HA, HJ10, ⟨mc10, rfl⟩⟩ := hcut
                cases kq with
                | zero => exact absurd HA.out (by simp [graftwoodref01_Class.j2])
                | succ kj10 =>
                  have H := HA.out
                  clear HA
                  simp only [graftwoodref01_Class.j2] at H
                  by_cases c15 : x39_10 = true
                  · subst c15
                    have H1 : (some 3) = some r := by rw [if_pos rfl] at H; exact H
                    clear H
                    have H := H1
                    clear H1
                    obtain rfl := Option.some.inj H
                    go_wp2
                    go_ret
                    exact ⟨by first | rfl | (simp; done) | (simp [*]; done), by repeat (first | exact Drawn0.refl _ | apply Drawn0.step)⟩
                  · replace c15 := Bool.eq_false_iff.mpr c15
                    subst c15
                    have H1 : (if (wrap64 (a0)) = 47 then (some 4) else (if (wrap64 (a0)) = 32 then (graftwoodref01_Class.j3 kj10 (wrap64 (a0)) ((wrap64 (a0)) == 32)) else (graftwoodref01_Class.j3 kj10 (wrap64 (a0)) ((wrap64 (a0)) == 9)))) = some r := by rw [if_neg (show ¬ (false = true) by decide)] at H; exact H
                    clear H
                    have H := H1
                    clear H1
                    by_cases c16 : (wrap64 (a0)) = 47
                    · rw [if_pos c16] at H
                      have c16b0 : ((wrap64 (a0)) == 47) = true := beq_iff_eq.mpr c16
                      have c16b1 : ((wrap64 (a0)) != 47) = false := bne_eq_false_iff_eq.mpr c16
                      clear c16
                      obtain rfl := Option.some.inj H
                      go_wp2
                      go_ret
                      exact ⟨by first | rfl | (simp; done) | (simp [*]; done), by repeat (first | exact Drawn0.refl _ | apply Drawn0.step)⟩
                    · rw [if_neg c16] at H
                      have c16b0 : ((wrap64 (a0)) == 47) = false := beq_eq_false_iff_ne.mpr c16
                      have c16b1 : ((wrap64 (a0)) != 47) = true := bne_iff_ne.mpr c16
                      have HC17 := Aside0.mk H
                      clear H
                      go_upto_if 43 with (fail)
                      go_cut [43] (fun v43 wc => ∃ (kq : Nat) (x43_16 : Bool), v43 = .bool x43_16 ∧ Aside0 (graftwoodref01_Class.j3 kq (wrap64 (a0)) x43_16 = some r) ∧ Aside0 (kq ≤ kj10) ∧ Drawn0 w wc)
                      case first =>
                        have H := HC17.out
                        clear HC17
                        by_cases c18 : (wrap64 (a0)) = 32
                        · rw [if_pos c18] at H
                          have c18b0 : ((wrap64 (a0)) == 32) = true := beq_iff_eq.mpr c18
                          have c18b1 : ((wrap64 (a0)) != 32) = false := bne_eq_false_iff_eq.mpr c18
                          clear c18
                          (first | rw [c18b0] | (simp only [i64_w, i32_w]; rw [c18b0]) | skip)
                          have H' := Aside0.mk H
                          clear H
                          go_wp2
                          go_meet
                          case rel => exact ⟨_, (((wrap64 (a0)) == 32)), (by first | rfl | (simp; done) | (simp [*]; done)), H', ⟨by have := HJ1.out; have := HJ4.out; have := HJ10.out; first | omega | exact Nat.le_refl _⟩, by repeat (first | exact Drawn0.refl _ | apply Drawn0.step)⟩
                        · rw [if_neg c18] at H
                          have c18b0 : ((wrap64 (a0)) == 32) = false := beq_eq_false_iff_ne.mpr c18
                          have c18b1 : ((wrap64 (a0)) != 32) = true := bne_iff_ne.mpr c18
                          (first | rw [c18b0] | (simp only [i64_w, i32_w]; rw [c18b0]) | skip)
                          have H' := Aside0.mk H
                          clear H
                          go_wp2
                          go_meet
                          case rel => exact ⟨_, (((wrap64 (a0)) == 9)), (by first | rfl | (simp; done) | (simp [*]; done)), H', ⟨by have := HJ1.out; have := HJ4.out; have := HJ10.out; first | omega | exact Nat.le_refl _⟩, by repeat (first | exact Drawn0.refl _ | apply Drawn0.step)⟩
                      case rest =>
                        clear HC17
                        try clear c1
                        try clear c2
                        try clear p2
                        try clear c3
                        try clear c3b0
                        try clear c4
                        try clear c6
                        try clear c6b0
                        try clear p6
                        try clear c7
                        try clear c7b0
                        try clear c8
                        try clear c8b0
                        try clear c9
                        try clear c9b0
                        try clear c10
                        try clear c12
                        try clear c12b0
                        try clear c12b1
                        try clear c13
                        try clear c13b0
                        try clear c13b1
                        try clear c14
                        try clear c14b0
                        try clear c14b1
                        try clear c15
                        try clear c16
                        try clear c16b0
                        try clear c16b1
                        try clear c18
                        try clear c18b0
                        try clear c18b1
                        try clear p2
                        try clear p6
                        obtain ⟨kq, x43_16, rfl, HA, HJ16, ⟨mc16, rfl⟩⟩ := hcut
                        cases kq with
                        | zero => exact absurd HA.out (by simp [graftwoodref01_Class.j3])
                        | succ kj16 =>
                          have H := HA.out
                          clear HA
                          simp only [graftwoodref01_Class.j3] at H
                          by_cases c19 : x43_16 = true
                          · subst c19
                            have H1 : (some 5) = some r := by rw [if_pos rfl] at H; exact H
                            clear H
                            have H := H1
                            clear H1
                            obtain rfl := Option.some.inj H
                            go_wp2
                            go_ret
                            exact ⟨by first | rfl | (simp; done) | (simp [*]; done), by repeat (first | exact Drawn0.refl _ | apply Drawn0.step)⟩
                          · replace c19 := Bool.eq_false_iff.mpr c19
                            subst c19
                            have H1 : (if (wrap64 (a0)) = 10 then (some 6) else (if (wrap64 (a0)) = 34 then (some 7) else (if (wrap64 (a0)) = 40 then (some 8) else (if (wrap64 (a0)) = 41 then (some 9) else (some 0))))) = some r := by rw [if_neg (show ¬ (false = true) by decide)] at H; exact H
                            clear H
                            have H := H1
                            clear H1
                            by_cases c20 : (wrap64 (a0)) = 10
                            · rw [if_pos c20] at H
                              have c20b0 : ((wrap64 (a0)) == 10) = true := beq_iff_eq.mpr c20
                              have c20b1 : ((wrap64 (a0)) != 10) = false := bne_eq_false_iff_eq.mpr c20
                              clear c20
                              obtain rfl := Option.some.inj H
                              go_wp2
                              go_ret
                              exact ⟨by first | rfl | (simp; done) | (simp [*]; done), by repeat (first | exact Drawn0.refl _ | apply Drawn0.step)⟩
                            · rw [if_neg c20] at H
                              have c20b0 : ((wrap64 (a0)) == 10) = false := beq_eq_false_iff_ne.mpr c20
                              have c20b1 : ((wrap64 (a0)) != 10) = true := bne_iff_ne.mpr c20
                              by_cases c21 : (wrap64 (a0)) = 34
                              · rw [if_pos c21] at H
                                have c21b0 : ((wrap64 (a0)) == 34) = true := beq_iff_eq.mpr c21
                                have c21b1 : ((wrap64 (a0)) != 34) = false := bne_eq_false_iff_eq.mpr c21
                                clear c21
                                obtain rfl := Option.some.inj H
                                go_wp2
                                go_ret
                                exact ⟨by first | rfl | (simp; done) | (simp [*]; done), by repeat (first | exact Drawn0.refl _ | apply Drawn0.step)⟩
                              · rw [if_neg c21] at H
                                have c21b0 : ((wrap64 (a0)) == 34) = false := beq_eq_false_iff_ne.mpr c21
                                have c21b1 : ((wrap64 (a0)) != 34) = true := bne_iff_ne.mpr c21
                                by_cases c22 : (wrap64 (a0)) = 40
                                · rw [if_pos c22] at H
                                  have c22b0 : ((wrap64 (a0)) == 40) = true := beq_iff_eq.mpr c22
                                  have c22b1 : ((wrap64 (a0)) != 40) = false := bne_eq_false_iff_eq.mpr c22
                                  clear c22
                                  obtain rfl := Option.some.inj H
                                  go_wp2
                                  go_ret
                                  exact ⟨by first | rfl | (simp; done) | (simp [*]; done), by repeat (first | exact Drawn0.refl _ | apply Drawn0.step)⟩
                                · rw [if_neg c22] at H
                                  have c22b0 : ((wrap64 (a0)) == 40) = false := beq_eq_false_iff_ne.mpr c22
                                  have c22b1 : ((wrap64 (a0)) != 40) = true := bne_iff_ne.mpr c22
                                  by_cases c23 : (wrap64 (a0)) = 41
                                  · rw [if_pos c23] at H
                                    have c23b0 : ((wrap64 (a0)) == 41) = true := beq_iff_eq.mpr c23
                                    have c23b1 : ((wrap64 (a0)) != 41) = false := bne_eq_false_iff_eq.mpr c23
                                    clear c23
                                    obtain rfl := Option.some.inj H
                                    go_wp2
                                    go_ret
                                    exact ⟨by first | rfl | (simp; done) | (simp [*]; done), by repeat (first | exact Drawn0.refl _ | apply Drawn0.step)⟩
                                  · rw [if_neg c23] at H
                                    have c23b0 : ((wrap64 (a0)) == 41) = false := beq_eq_false_iff_ne.mpr c23
                                    have c23b1 : ((wrap64 (a0)) != 41) = true := bne_iff_ne.mpr c23
                                    obtain rfl := Option.some.inj H
                                    go_wp2
                                    go_ret
                                    exact ⟨by first | rfl | (simp; done) | (simp [*]; done), by repeat (first | exact Drawn0.refl _ | apply Drawn0.step)⟩

/-! ### octet_In: function 21 -/
def octet_In.l0 : Nat → Int → List Int → Int → Int → Option (Bool)
  | 0, _, _, _, _ => none
  | k + 1, x5, x10, x11, x12 => if x12 < x11 then (if 0 ≤ x12 then (if x12 < (x10.length : Int) then (if (rd x10 x12) = x5 then (some true) else (octet_In.l0 k x5 x10 x11 (wrap64 (x12 + 1)))) else (none)) else (none)) else (some false)
def octet_In.f (k : Nat) (a0 : Int) (l1 : List Int) : Option (Bool) := (octet_Class.f a0).bind fun t235 => (octet_In.l0 k t235 l1 (l1.length : Int) 0)
theorem octet_In.mono_l : ∀ k, (∀ y0 y1 y2 y3, LeO (octet_In.l0 k y0 y1 y2 y3) (octet_In.l0 (k + 1) y0 y1 y2 y3))
  | 0 => fun _ _ _ _ r h => by simp [octet_In.l0] at h
  | k + 1 => by
    have ih0 := octet_In.mono_l k
    · intro y0 y1 y2 y3
      unfold octet_In.l0
      repeat' first
      | (with_reducible exact ih0 _ _ _ _)
      | (with_reducible exact LeO.refl _)
      | (with_reducible exact LeO.none _)
      | (with_reducible refine LeO.ite ?_ ?_)
      | (with_reducible refine LeO.bind ?_ (fun _ => ?_))
      | exact ih0 _ _ _ _
      | exact LeO.none _
      | refine LeO.ite ?_ ?_
      | refine LeO.bind ?_ (fun _ => ?_)
theorem octet_In.mono : ∀ a0 a1 k, LeO (octet_In.f k a0 a1) (octet_In.f (k + 1) a0 a1) := by
  intro a0 a1 k
  have ih0 := octet_In.mono_l k
  unfold octet_In.f
  repeat' first
      | (with_reducible exact ih0 _ _ _ _)
      | (with_reducible exact LeO.refl _)
      | (with_reducible exact LeO.none _)
      | (with_reducible refine LeO.ite ?_ ?_)
      | (with_reducible refine LeO.bind ?_ (fun _ => ?_))
      | exact ih0 _ _ _ _
      | exact LeO.none _
      | refine LeO.ite ?_ ?_
      | refine LeO.bind ?_ (fun _ => ?_)
set_option maxHeartbeats 8000000 in
set_option maxRecDepth 100000 in
theorem octet_In.calls (k : Nat) (a0 : Int) (A1 : Option Addr) (c1 : Nat) (l1 : List Int) (r : Bool) (w : World) (hr1 : Kd.C (Kd.int .i64) w A1 l1.length l1) (hc1 : l1.length ≤ c1) (h : octet_In.f k a0 l1 = some r) :
    Calls Tryd.prog 21 #[.int .u8 a0, .slice A1 l1.length c1] w fun e w' => e = .returned (.bool r) ∧ Below w.heap.size w w' := by
  have HR1 := Aside0.mk hr1
  have HC1 := Aside0.mk hc1
  clear hr1 hc1
  have HB := Aside0.mk (Below.refl w.heap.size w)
  have H : ((octet_Class.f a0).bind fun t235 => (octet_In.l0 k t235 l1 (l1.length : Int) 0)) = some r := h
  clear h
  replace H := Option.bind_eq_some_iff.mp H
  obtain ⟨t235, A30, H⟩ := H
  replace H : (octet_In.l0 k t235 l1 (l1.length : Int) 0) = some r := H
  have A3 := Aside0.mk A30
  clear A30
  have H' := Aside0.mk H
  clear H
  go_enter Tryd.func21, Tryd.ntmps21
  go_wp2_with (first | ((with_reducible refine gate_callee (f := 19) rfl ?_); refine goesL_ (some 9) rfl rfl Tryd.func19 (by kernel_rfl) rfl #[.int .u8 a0] rfl (by (try simp only [List.map_toArray, List.map_cons, List.map_nil]); first | done | rfl | (simp only [List.length_drop, List.length_take]; rfl)) ?_; (with_reducible refine (octet_Class.calls a0 t235 _ A3.out).mono ?_); rintro e w4 ⟨rfl, hb⟩; refine ⟨_, rfl, ?_⟩; have n0_ := Aside0.mk (below_step (by repeat (first | (with_reducible first | exact HB.out | apply below_alloc | apply pw_below_drewN | apply below_drew1) | exact HB.out)) hb); clear HB; have HB := n0_; clear n0_; (try clear hb); (try clear hb2); (try clear hk); (try clear hi)))
  go_loopg [12] k (fun kq v12 w' => ∃ (x12_1 : Int), v12 = .int .i64 x12_1 ∧ Aside0 (octet_In.l0 kq t235 l1 (l1.length : Int) x12_1 = some r) ∧ Aside0 (kq ≤ k) ∧ Aside0 (Below w.heap.size w w'))
  case atStart => exact ⟨(0), (by first | rfl | (simp; done) | (simp [*]; done)), H', ⟨Nat.le_refl _⟩, ⟨by repeat (first | (with_reducible first | exact HB.out | apply below_alloc | apply pw_below_drewN | apply below_drew1) | exact HB.out)⟩⟩
  case round =>
    clear H'
    try clear c1
    try clear c2
    try clear p2
    obtain ⟨x12_1, rfl, HA, HK1, HB⟩ := hrel
    cases gk with
    | zero => exact absurd HA.out (by simp [octet_In.l0])
    | succ k1 =>
      have H := HA.out
      clear HA
      simp only [octet_In.l0] at H
      by_cases c5 : x12_1 < (l1.length : Int)
      · rw [if_pos c5] at H
        have c5b0 : decide (x12_1 < (l1.length : Int)) = true := decide_eq_true c5
        clear c5
        by_cases c6 : 0 ≤ x12_1
        · rw [if_pos c6] at H
          have c6b0 : decide (0 ≤ x12_1) = true := decide_eq_true c6
          clear c6
          by_cases c7 : x12_1 < (l1.length : Int)
          · rw [if_pos c7] at H
            have c7b0 : decide (x12_1 < (l1.length : Int)) = true := decide_eq_true c7
            clear c7
            by_cases c8 : (rd l1 x12_1) = t235
            · rw [if_pos c8] at H
              have c8b0 : ((rd l1 x12_1) == t235) = true := beq_iff_eq.mpr c8
              have c8b1 : ((rd l1 x12_1) != t235) = false := bne_eq_false_iff_eq.mpr c8
              clear c8
              obtain rfl := Option.some.inj H
              have p236 : 0 ≤ (x12_1 : Int) := of_decide_eq_true (by first | (with_reducible assumption) | assumption)
              have q236 : x12_1 < (l1.length : Int) := of_decide_eq_true (by first | (with_reducible assumption) | assumption)
              obtain ⟨ad236, e236, hx236_0⟩ := Kd.at_int HR1.out x12_1 p236 q236
              cases e236
              replace hx236_0 := (HB.out.cell (World.block_lt_of_cell? w _ hx236_0)).trans hx236_0
              replace p236 := eq_true p236
              replace q236 := eq_true q236
              go_wp2
              go_ret
              exact ⟨by first | rfl | (simp [errW_none, errW_some] <;> rfl) | (simp [*, errW_none, errW_some] <;> rfl), by repeat (first | (with_reducible first | exact HB.out | apply below_alloc | apply pw_below_drewN | apply below_drew1) | exact HB.out)⟩
            · rw [if_neg c8] at H
              have c8b0 : ((rd l1 x12_1) == t235) = false := beq_eq_false_iff_ne.mpr c8
              have c8b1 : ((rd l1 x12_1) != t235) = true := bne_iff_ne.mpr c8
              have H' := Aside0.mk H
              clear H
              have p236 : 0 ≤ (x12_1 : Int) := of_decide_eq_true (by first | (with_reducible assumption) | assumption)
              have q236 : x12_1 < (l1.length : Int) := of_decide_eq_true (by first | (with_reducible assumption) | assumption)
              obtain ⟨ad236, e236, hx236_0⟩ := Kd.at_int HR1.out x12_1 p236 q236
              cases e236
              replace hx236_0 := (HB.out.cell (World.block_lt_of_cell? w _ hx236_0)).trans hx236_0
              replace p236 := eq_true p236
              replace q236 := eq_true q236
              go_wp2
              go_roundg k1
              case measure => have := HK1.out; omega
              case rel => exact ⟨(wrap64 (x12_1 + 1)), (by first | rfl | (simp; done) | (simp [*]; done)), H', ⟨by have := HK1.out; omega⟩, ⟨by repeat (first | (with_reducible first | exact HB.out | apply below_alloc | apply pw_below_drewN | apply below_drew1) | exact HB.out)⟩⟩
          · rw [if_neg c7] at H
            exact absurd H (by simp)
        · rw [if_neg c6] at H
          exact absurd H (by simp)
      · rw [if_neg c5] at H
        have c5b0 : decide (x12_1 < (l1.length : Int)) = false := decide_eq_false c5
        clear c5
        obtain rfl := Option.some.inj H
        go_wp2
        go_ret
        exact ⟨by first | rfl | (simp [errW_none, errW_some] <;> rfl) | (simp [*, errW_none, errW_some] <;> rfl), by repeat (first | (with_reducible first | exact HB.out | apply below_alloc | apply pw_below_drewN | apply below_drew1) | exact HB.out)⟩

/-! ### graftwoodref01_Has: function 22 -/
def graftwoodref01_Has.l0 : Nat → List Int → Int → Int → Option (Bool)
  | 0, _, _, _ => none
  | k + 1, x0, x1, x5 => if x5 < (x0.length : Int) then (if 0 ≤ x5 then (if (rd x0 x5) = x1 then (some true) else (graftwoodref01_Has.l0 k x0 x1 (wrap64 (x5 + 1)))) else (none)) else (some false)
def graftwoodref01_Has.f (k : Nat) (l0 : List Int) (a1 : Int) : Option (Bool) := graftwoodref01_Has.l0 k l0 a1 0
theorem graftwoodref01_Has.mono_l : ∀ k, (∀ y0 y1 y2, LeO (graftwoodref01_Has.l0 k y0 y1 y2) (graftwoodref01_Has.l0 (k + 1) y0 y1 y2))
  | 0 => fun _ _ _ r h => by simp [graftwoodref01_Has.l0] at h
  | k + 1 => by
    have ih0 := graftwoodref01_Has.mono_l k
    · intro y0 y1 y2
      unfold graftwoodref01_Has.l0
      repeat' first
      | (with_reducible exact ih0 _ _ _)
      | (with_reducible exact LeO.refl _)
      | (with_reducible exact LeO.none _)
      | (with_reducible refine LeO.ite ?_ ?_)
      | (with_reducible refine LeO.bind ?_ (fun _ => ?_))
      | exact ih0 _ _ _
      | exact LeO.none _
      | refine LeO.ite ?_ ?_
      | refine LeO.bind ?_ (fun _ => ?_)
theorem graftwoodref01_Has.mono : ∀ a0 a1 k, LeO (graftwoodref01_Has.f k a0 a1) (graftwoodref01_Has.f (k + 1) a0 a1) := by
  intro a0 a1 k
  have ih0 := graftwoodref01_Has.mono_l k
  unfold graftwoodref01_Has.f
  repeat' first
      | (with_reducible exact ih0 _ _ _)
      | (with_reducible exact LeO.refl _)
      | (with_reducible exact LeO.none _)
      | (with_reducible refine LeO.ite ?_ ?_)
      | (with_reducible refine LeO.bind ?_ (fun _ => ?_))
      | exact ih0 _ _ _
      | exact LeO.none _
      | refine LeO.ite ?_ ?_
      | refine LeO.bind ?_ (fun _ => ?_)
set_option maxHeartbeats 8000000 in
set_option maxRecDepth 100000 in
theorem graftwoodref01_Has.calls (k : Nat) (A0 : Option Addr) (c0 : Nat) (l0 : List Int) (a1 : Int) (r : Bool) (w : World) (hr0 : Kd.C (Kd.int .i64) w A0 l0.length l0) (hc0 : l0.length ≤ c0) (h : graftwoodref01_Has.f k l0 a1 = some r) :
    Calls Tryd.prog 22 #[.slice A0 l0.length c0, .int .i64 a1] w fun e w' => e = .returned (.bool r) ∧ Drawn0 w w' := by
  have HR0 := Aside0.mk hr0
  have HC0 := Aside0.mk hc0
  clear hr0 hc0
  have H : (graftwoodref01_Has.l0 k l0 a1 0) = some r := h
  clear h
  have H' := Aside0.mk H
  clear H
  go_enter Tryd.func22, Tryd.ntmps22
  go_wp2
  go_loopg [5] k (fun kq v5 w' => ∃ (x5_1 : Int), v5 = .int .i64 x5_1 ∧ Aside0 (graftwoodref01_Has.l0 kq l0 a1 x5_1 = some r) ∧ Aside0 (kq ≤ k) ∧ Drawn0 w w')
  case atStart => exact ⟨(0), (by first | rfl | (simp; done) | (simp [*]; done)), H', ⟨Nat.le_refl _⟩, by repeat (first | exact Drawn0.refl _ | apply Drawn0.step)⟩
  case round =>
    clear H'
    try clear c2
    try clear p2
    obtain ⟨x5_1, rfl, HA, HK1, ⟨m1, rfl⟩⟩ := hrel
    cases gk with
    | zero => exact absurd HA.out (by simp [graftwoodref01_Has.l0])
    | succ k1 =>
      have H := HA.out
      clear HA
      simp only [graftwoodref01_Has.l0] at H
      by_cases c3 : x5_1 < (l0.length : Int)
      · rw [if_pos c3] at H
        have c3b0 : decide (x5_1 < (l0.length : Int)) = true := decide_eq_true c3
        clear c3
        by_cases c4 : 0 ≤ x5_1
        · rw [if_pos c4] at H
          have c4b0 : decide (0 ≤ x5_1) = true := decide_eq_true c4
          clear c4
          by_cases c5 : (rd l0 x5_1) = a1
          · rw [if_pos c5] at H
            have c5b0 : ((rd l0 x5_1) == a1) = true := beq_iff_eq.mpr c5
            have c5b1 : ((rd l0 x5_1) != a1) = false := bne_eq_false_iff_eq.mpr c5
            clear c5
            obtain rfl := Option.some.inj H
            have p237 : 0 ≤ (x5_1 : Int) := of_decide_eq_true (by first | (with_reducible assumption) | assumption)
            have q237 : x5_1 < (l0.length : Int) := of_decide_eq_true (by first | (with_reducible assumption) | assumption)
            obtain ⟨ad237, e237, hx237_0⟩ := Kd.at_int HR0.out x5_1 p237 q237
            cases e237
            replace p237 := eq_true p237
            replace q237 := eq_true q237
            go_wp2
            go_ret
            exact ⟨by first | rfl | (simp; done) | (simp [*]; done), by repeat (first | exact Drawn0.refl _ | apply Drawn0.step)⟩
          · rw [if_neg c5] at H
            have c5b0 : ((rd l0 x5_1) == a1) = false := beq_eq_false_iff_ne.mpr c5
            have c5b1 : ((rd l0 x5_1) != a1) = true := bne_iff_ne.mpr c5
            have H' := Aside0.mk H
            clear H
            have p237 : 0 ≤ (x5_1 : Int) := of_decide_eq_true (by first | (with_reducible assumption) | assumption)
            have q237 : x5_1 < (l0.length : Int) := of_decide_eq_true (by first | (with_reducible assumption) | assumption)
            obtain ⟨ad237, e237, hx237_0⟩ := Kd.at_int HR0.out x5_1 p237 q237
            cases e237
            replace p237 := eq_true p237
            replace q237 := eq_true q237
            go_wp2
            go_roundg k1
            case measure => have := HK1.out; omega
            case rel => exact ⟨(wrap64 (x5_1 + 1)), (by first | rfl | (simp; done) | (simp [*]; done)), H', ⟨by have := HK1.out; omega⟩, by repeat (first | exact Drawn0.refl _ | apply Drawn0.step)⟩
        · rw [if_neg c4] at H
          exact absurd H (by simp)
      · rw [if_neg c3] at H
        have c3b0 : decide (x5_1 < (l0.length : Int)) = false := decide_eq_false c3
        clear c3
        obtain rfl := Option.some.inj H
        go_wp2
        go_ret
        exact ⟨by first | rfl | (simp; done) | (simp [*]; done), by repeat (first | exact Drawn0.refl _ | apply Drawn0.step)⟩

/-! ### graftwoodref01_All: function 23 -/
def graftwoodref01_All.l0 : Nat → ByteArray → List Int → Int → Option (Bool)
  | 0, _, _, _ => none
  | k + 1, x0, x1, x5 => if x5 < (x0.size : Int) then (if 0 ≤ x5 then ((graftwoodref01_Class.f k (bt x0 x5)).bind fun t238 => ((graftwoodref01_Has.f k x1 t238).bind fun t239 => (if t239 = true then (graftwoodref01_All.l0 k x0 x1 (wrap64 (x5 + 1))) else (some false)))) else (none)) else (some true)
def graftwoodref01_All.f (k : Nat) (a0 : ByteArray) (l1 : List Int) : Option (Bool) := graftwoodref01_All.l0 k a0 l1 0
theorem graftwoodref01_All.mono_l : ∀ k, (∀ y0 y1 y2, LeO (graftwoodref01_All.l0 k y0 y1 y2) (graftwoodref01_All.l0 (k + 1) y0 y1 y2))
  | 0 => fun _ _ _ r h => by simp [graftwoodref01_All.l0] at h
  | k + 1 => by
    have ih0 := graftwoodref01_All.mono_l k
    · intro y0 y1 y2
      unfold graftwoodref01_All.l0
      repeat' first
      | (with_reducible exact ih0 _ _ _)
      | (with_reducible exact graftwoodref01_Class.mono _ _)
      | (with_reducible exact graftwoodref01_Has.mono _ _ _)
      | (with_reducible exact LeO.refl _)
      | (with_reducible exact LeO.none _)
      | (with_reducible refine LeO.ite ?_ ?_)
      | (with_reducible refine LeO.bind ?_ (fun _ => ?_))
      | exact ih0 _ _ _
      | exact graftwoodref01_Class.mono _ _
      | exact graftwoodref01_Has.mono _ _ _
      | exact LeO.none _
      | refine LeO.ite ?_ ?_
      | refine LeO.bind ?_ (fun _ => ?_)
theorem graftwoodref01_All.mono : ∀ a0 a1 k, LeO (graftwoodref01_All.f k a0 a1) (graftwoodref01_All.f (k + 1) a0 a1) := by
  intro a0 a1 k
  have ih0 := graftwoodref01_All.mono_l k
  unfold graftwoodref01_All.f
  repeat' first
      | (with_reducible exact ih0 _ _ _)
      | (with_reducible exact graftwoodref01_Class.mono _ _)
      | (with_reducible exact graftwoodref01_Has.mono _ _ _)
      | (with_reducible exact LeO.refl _)
      | (with_reducible exact LeO.none _)
      | (with_reducible refine LeO.ite ?_ ?_)
      | (with_reducible refine LeO.bind ?_ (fun _ => ?_))
      | exact ih0 _ _ _
      | exact graftwoodref01_Class.mono _ _
      | exact graftwoodref01_Has.mono _ _ _
      | exact LeO.none _
      | refine LeO.ite ?_ ?_
      | refine LeO.bind ?_ (fun _ => ?_)
set_option maxHeartbeats 8000000 in
set_option maxRecDepth 100000 in
theorem graftwoodref01_All.calls (k : Nat) (a0 : ByteArray) (A1 : Option Addr) (c1 : Nat) (l1 : List Int) (r : Bool) (w : World) (hr1 : Kd.C (Kd.int .i64) w A1 l1.length l1) (hc1 : l1.length ≤ c1) (h : graftwoodref01_All.f k a0 l1 = some r) :
    Calls Tryd.prog 23 #[.string a0, .slice A1 l1.length c1] w fun e w' => e = .returned (.bool r) ∧ Drawn0 w w' := by
  have HR1 := Aside0.mk hr1
  have HC1 := Aside0.mk hc1
  clear hr1 hc1
  have H : (graftwoodref01_All.l0 k a0 l1 0) = some r := h
  clear h
  have H' := Aside0.mk H
  clear H
  go_enter Tryd.func23, Tryd.ntmps23
  go_wp2
  go_loopg [5] k (fun kq v5 w' => ∃ (x5_1 : Int), v5 = .int .i64 x5_1 ∧ Aside0 (graftwoodref01_All.l0 kq a0 l1 x5_1 = some r) ∧ Aside0 (kq ≤ k) ∧ Drawn0 w w')
  case atStart => exact ⟨(0), (by first | rfl | (simp; done) | (simp [*]; done)), H', ⟨Nat.le_refl _⟩, by repeat (first | exact Drawn0.refl _ | apply Drawn0.step)⟩
  case round =>
    clear H'
    try clear c1
    try clear c2
    try clear p2
    obtain ⟨x5_1, rfl, HA, HK1, ⟨m1, rfl⟩⟩ := hrel
    cases gk with
    | zero => exact absurd HA.out (by simp [graftwoodref01_All.l0])
    | succ k1 =>
      have H := HA.out
      clear HA
      simp only [graftwoodref01_All.l0] at H
      by_cases c3 : x5_1 < (a0.size : Int)
      · rw [if_pos c3] at H
        have c3b0 : decide (x5_1 < (a0.size : Int)) = true := decide_eq_true c3
        clear c3
        by_cases c4 : 0 ≤ x5_1
        · rw [if_pos c4] at H
          have c4b0 : decide (0 ≤ x5_1) = true := decide_eq_true c4
          clear c4
          replace H := Option.bind_eq_some_iff.mp H
          obtain ⟨t238, A60, H⟩ := H
          replace H : ((graftwoodref01_Has.f k1 l1 t238).bind fun t239 => (if t239 = true then (graftwoodref01_All.l0 k1 a0 l1 (wrap64 (x5_1 + 1))) else (some false))) = some r := H
          have A6 := Aside0.mk A60
          clear A60
          replace H := Option.bind_eq_some_iff.mp H
          obtain ⟨t239, A70, H⟩ := H
          replace H : (if t239 = true then (graftwoodref01_All.l0 k1 a0 l1 (wrap64 (x5_1 + 1))) else (some false)) = some r := H
          have A7 := Aside0.mk A70
          clear A70
          by_cases c8 : t239 = true
          · subst c8
            have H1 : (graftwoodref01_All.l0 k1 a0 l1 (wrap64 (x5_1 + 1))) = some r := by rw [if_pos rfl] at H; exact H
            clear H
            have H := H1
            clear H1
            have H' := Aside0.mk H
            clear H
            have p5 : 0 ≤ (x5_1 : Int) := of_decide_eq_true (by first | (with_reducible assumption) | assumption)
            have q5 : x5_1 < (a0.size : Int) := of_decide_eq_true (by first | (with_reducible assumption) | assumption)
            have hx5 := bt_at a0 x5_1
            replace p5 := eq_true p5
            replace q5 := eq_true q5
            go_wp2_with (first | ((with_reducible refine gate_callee (f := 20) rfl ?_); refine goesL_ (some 16) rfl rfl Tryd.func20 (by kernel_rfl) rfl #[.int .u8 (bt a0 x5_1)] rfl (by (try simp only [List.map_toArray, List.map_cons, List.map_nil]); first | done | rfl | (simp only [List.length_drop, List.length_take]; rfl)) ?_; (with_reducible refine (graftwoodref01_Class.calls k1 (bt a0 x5_1) t238 _ A6.out).mono ?_); rintro e w' ⟨rfl, ⟨nd, rfl⟩⟩; refine ⟨_, rfl, ?_⟩) | ((with_reducible refine gate_callee (f := 22) rfl ?_); refine goesL_ (some 17) rfl rfl Tryd.func22 (by kernel_rfl) rfl #[.slice A1 l1.length c1, .int .i64 t238] rfl (by (try simp only [List.map_toArray, List.map_cons, List.map_nil]); first | done | rfl | (simp only [List.length_drop, List.length_take]; rfl)) ?_; (with_reducible refine (graftwoodref01_Has.calls k1 _ _ l1 t238 true _ ?side1 ?side2 A7.out).mono ?_); (case side1 => repeat (first | exact HR1.out | (with_reducible refine Kd.C_alloc ?_ _) | (with_reducible refine Kd.C_drewN ?_ _) | (with_reducible refine Kd.C_drew ?_))); (case side2 => exact HC1.out); rintro e w' ⟨rfl, ⟨nd, rfl⟩⟩; refine ⟨_, rfl, ?_⟩))
            go_roundg k1
            case measure => have := HK1.out; omega
            case rel => exact ⟨(wrap64 (x5_1 + 1)), (by first | rfl | (simp; done) | (simp [*]; done)), H', ⟨by have := HK1.out; omega⟩, by repeat (first | exact Drawn0.refl _ | apply Drawn0.step)⟩
          · replace c8 := Bool.eq_false_iff.mpr c8
            subst c8
            have H1 : (some false) = some r := by rw [if_neg (show ¬ (false = true) by decide)] at H; exact H
            clear H
            have H := H1
            clear H1
            obtain rfl := Option.some.inj H
            have p5 : 0 ≤ (x5_1 : Int) := of_decide_eq_true (by first | (with_reducible assumption) | assumption)
            have q5 : x5_1 < (a0.size : Int) := of_decide_eq_true (by first | (with_reducible assumption) | assumption)
            have hx5 := bt_at a0 x5_1
            replace p5 := eq_true p5
            replace q5 := eq_true q5
            go_wp2_with (first | ((with_reducible refine gate_callee (f := 20) rfl ?_); refine goesL_ (some 16) rfl rfl Tryd.func20 (by kernel_rfl) rfl #[.int .u8 (bt a0 x5_1)] rfl (by (try simp only [List.map_toArray, List.map_cons, List.map_nil]); first | done | rfl | (simp only [List.length_drop, List.length_take]; rfl)) ?_; (with_reducible refine (graftwoodref01_Class.calls k1 (bt a0 x5_1) t238 _ A6.out).mono ?_); rintro e w' ⟨rfl, ⟨nd, rfl⟩⟩; refine ⟨_, rfl, ?_⟩) | ((with_reducible refine gate_callee (f := 22) rfl ?_); refine goesL_ (some 17) rfl rfl Tryd.func22 (by kernel_rfl) rfl #[.slice A1 l1.length c1, .int .i64 t238] rfl (by (try simp only [List.map_toArray, List.map_cons, List.map_nil]); first | done | rfl | (simp only [List.length_drop, List.length_take]; rfl)) ?_; (with_reducible refine (graftwoodref01_Has.calls k1 _ _ l1 t238 false _ ?side1 ?side2 A7.out).mono ?_); (case side1 => repeat (first | exact HR1.out | (with_reducible refine Kd.C_alloc ?_ _) | (with_reducible refine Kd.C_drewN ?_ _) | (with_reducible refine Kd.C_drew ?_))); (case side2 => exact HC1.out); rintro e w' ⟨rfl, ⟨nd, rfl⟩⟩; refine ⟨_, rfl, ?_⟩))
            go_ret
            exact ⟨by first | rfl | (simp; done) | (simp [*]; done), by repeat (first | exact Drawn0.refl _ | apply Drawn0.step)⟩
        · rw [if_neg c4] at H
          exact absurd H (by simp)
      · rw [if_neg c3] at H
        have c3b0 : decide (x5_1 < (a0.size : Int)) = false := decide_eq_false c3
        clear c3
        obtain rfl := Option.some.inj H
        go_wp2
        go_ret
        exact ⟨by first | rfl | (simp; done) | (simp [*]; done), by repeat (first | exact Drawn0.refl _ | apply Drawn0.step)⟩

end Go.Proofs.YtfhdbhocichpiaaDoor.P
