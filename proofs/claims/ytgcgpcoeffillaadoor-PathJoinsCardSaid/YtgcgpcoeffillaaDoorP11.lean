-- Written by this project's own program (wip/tools/hp.py), driving the kit's print; hand texts among it. Not trusted: Lean checks it.
import Derived.Test.YtgcgpcoeffillaaDoorP0
import Derived.Test.YtgcgpcoeffillaaDoorP1
import Derived.Test.YtgcgpcoeffillaaDoorP6
import Derived.Test.YtgcgpcoeffillaaDoorP9
namespace Go.Proofs.YtgcgpcoeffillaaDoor.P
open Go.RowKit Go.Proofs.YtgcgpcoeffillaaDoorW.PrintWords Go.Proofs.YtgcgpcoeffillaaDoorW.PrintLast Go.Proofs.YtgcgpcoeffillaaDoorW.PrintMore
attribute [local go_sem] max2_int min2_int max_two min_two max_three min_three max_four min_four   -- for this text's walks alone
set_option linter.unusedVariables false
set_option linter.unusedSimpArgs false

/-! ### graftwoodlaw04_PathJoins: function 4 -/
mutual
def graftwoodlaw04_PathJoins.l0 : Nat → List ByteArray → List ByteArray → Bool → ByteArray → Int → Option (Bool)
  | 0, _, _, _, _, _ => none
  | k + 1, x0, x3, x4, x5, x6 => if x6 < (x0.length : Int) then (graftwoodlaw04_PathJoins.j1 k x0 x3 x4 x5 x6 (decide (x6 < 8))) else (graftwoodlaw04_PathJoins.j1 k x0 x3 x4 x5 x6 false)
def graftwoodlaw04_PathJoins.j1 : Nat → List ByteArray → List ByteArray → Bool → ByteArray → Int → Bool → Option (Bool)
  | 0, _, _, _, _, _, _ => none
  | k + 1, x0, x3, x4, x5, x6, x19 => if x19 = true then (if 0 ≤ x6 then (if x6 < (x0.length : Int) then ((graftwoodlaw01_Few.f (rdOf ByteArray.empty x0 x6)).bind fun t172 => (if x3.length < 8796093022208 then ((some (x3 ++ [t172] : List ByteArray)).bind fun y173 => (if x4 = true then (if x6 < (y173.length : Int) then ((graftwoodref04_Element.f k (rdOf ByteArray.empty y173 x6)).bind fun t177 => (if x6 > 0 then (if x5.size + 1 ≤ 9223372036854775807 then (if (x5 ++ (⟨#[47]⟩ : ByteArray)).size + (rdOf ByteArray.empty y173 x6).size ≤ 9223372036854775807 then (graftwoodlaw04_PathJoins.l0 k x0 y173 t177 ((x5 ++ (⟨#[47]⟩ : ByteArray)) ++ (rdOf ByteArray.empty y173 x6)) (wrap64 (x6 + 1))) else (none)) else (none)) else (if x5.size + (rdOf ByteArray.empty y173 x6).size ≤ 9223372036854775807 then (graftwoodlaw04_PathJoins.l0 k x0 y173 t177 (x5 ++ (rdOf ByteArray.empty y173 x6)) (wrap64 (x6 + 1))) else (none)))) else (none)) else (if x6 > 0 then (if x5.size + 1 ≤ 9223372036854775807 then (if x6 < (y173.length : Int) then (if (x5 ++ (⟨#[47]⟩ : ByteArray)).size + (rdOf ByteArray.empty y173 x6).size ≤ 9223372036854775807 then (graftwoodlaw04_PathJoins.l0 k x0 y173 false ((x5 ++ (⟨#[47]⟩ : ByteArray)) ++ (rdOf ByteArray.empty y173 x6)) (wrap64 (x6 + 1))) else (none)) else (none)) else (none)) else (if x6 < (y173.length : Int) then (if x5.size + (rdOf ByteArray.empty y173 x6).size ≤ 9223372036854775807 then (graftwoodlaw04_PathJoins.l0 k x0 y173 false (x5 ++ (rdOf ByteArray.empty y173 x6)) (wrap64 (x6 + 1))) else (none)) else (none))))) else (none))) else (none)) else (none)) else ((path_Join.f k x3).bind fun bt182 => (if x4 = true then (if bt182.1.toList = x5.toList then (if bt182.2 = 0 then ((graftwoodlaw04_awake.f k).bind fun t184 => (some t184)) else (some false)) else (some false)) else (if bt182.1.toList = ([] : List UInt8) then (if bt182.2 = 1 then ((graftwoodlaw04_awake.f k).bind fun t185 => (some t185)) else (some false)) else (some false))))
end
def graftwoodlaw04_PathJoins.f (k : Nat) (l0 : List ByteArray) : Option (Bool) := graftwoodlaw04_PathJoins.l0 k l0 ([] : List ByteArray) (decide ((l0.length : Int) > 0)) (⟨#[]⟩ : ByteArray) 0
theorem graftwoodlaw04_PathJoins.mono_l : ∀ k, (∀ y0 y1 y2 y3 y4, LeO (graftwoodlaw04_PathJoins.l0 k y0 y1 y2 y3 y4) (graftwoodlaw04_PathJoins.l0 (k + 1) y0 y1 y2 y3 y4)) ∧ (∀ y0 y1 y2 y3 y4 y5, LeO (graftwoodlaw04_PathJoins.j1 k y0 y1 y2 y3 y4 y5) (graftwoodlaw04_PathJoins.j1 (k + 1) y0 y1 y2 y3 y4 y5))
  | 0 => ⟨fun _ _ _ _ _ r h => by simp [graftwoodlaw04_PathJoins.l0] at h, fun _ _ _ _ _ _ r h => by simp [graftwoodlaw04_PathJoins.j1] at h⟩
  | k + 1 => by
    obtain ⟨ih0, ih1⟩ := graftwoodlaw04_PathJoins.mono_l k
    refine ⟨?_, ?_⟩
    · intro y0 y1 y2 y3 y4
      unfold graftwoodlaw04_PathJoins.l0
      repeat' first
      | (with_reducible exact ih0 _ _ _ _ _)
      | (with_reducible exact ih1 _ _ _ _ _ _)
      | (with_reducible exact graftwoodlaw04_awake.mono _)
      | (with_reducible exact graftwoodref04_Element.mono _ _)
      | (with_reducible exact path_Join.mono _ _)
      | (with_reducible exact LeO.refl _)
      | (with_reducible exact LeO.none _)
      | (with_reducible refine LeO.ite ?_ ?_)
      | (with_reducible refine LeO.bind ?_ (fun _ => ?_))
      | exact ih0 _ _ _ _ _
      | exact ih1 _ _ _ _ _ _
      | exact graftwoodlaw04_awake.mono _
      | exact graftwoodref04_Element.mono _ _
      | exact path_Join.mono _ _
      | exact LeO.none _
      | refine LeO.ite ?_ ?_
      | refine LeO.bind ?_ (fun _ => ?_)
    · intro y0 y1 y2 y3 y4 y5
      unfold graftwoodlaw04_PathJoins.j1
      repeat' first
      | (with_reducible exact ih0 _ _ _ _ _)
      | (with_reducible exact ih1 _ _ _ _ _ _)
      | (with_reducible exact graftwoodlaw04_awake.mono _)
      | (with_reducible exact graftwoodref04_Element.mono _ _)
      | (with_reducible exact path_Join.mono _ _)
      | (with_reducible exact LeO.refl _)
      | (with_reducible exact LeO.none _)
      | (with_reducible refine LeO.ite ?_ ?_)
      | (with_reducible refine LeO.bind ?_ (fun _ => ?_))
      | exact ih0 _ _ _ _ _
      | exact ih1 _ _ _ _ _ _
      | exact graftwoodlaw04_awake.mono _
      | exact graftwoodref04_Element.mono _ _
      | exact path_Join.mono _ _
      | exact LeO.none _
      | refine LeO.ite ?_ ?_
      | refine LeO.bind ?_ (fun _ => ?_)
theorem graftwoodlaw04_PathJoins.mono : ∀ a0 k, LeO (graftwoodlaw04_PathJoins.f k a0) (graftwoodlaw04_PathJoins.f (k + 1) a0) := by
  intro a0 k
  obtain ⟨ih0, ih1⟩ := graftwoodlaw04_PathJoins.mono_l k
  unfold graftwoodlaw04_PathJoins.f
  repeat' first
      | (with_reducible exact ih0 _ _ _ _ _)
      | (with_reducible exact ih1 _ _ _ _ _ _)
      | (with_reducible exact graftwoodlaw04_awake.mono _)
      | (with_reducible exact graftwoodref04_Element.mono _ _)
      | (with_reducible exact path_Join.mono _ _)
      | (with_reducible exact LeO.refl _)
      | (with_reducible exact LeO.none _)
      | (with_reducible refine LeO.ite ?_ ?_)
      | (with_reducible refine LeO.bind ?_ (fun _ => ?_))
      | exact ih0 _ _ _ _ _
      | exact ih1 _ _ _ _ _ _
      | exact graftwoodlaw04_awake.mono _
      | exact graftwoodref04_Element.mono _ _
      | exact path_Join.mono _ _
      | exact LeO.none _
      | refine LeO.ite ?_ ?_
      | refine LeO.bind ?_ (fun _ => ?_)
set_option maxHeartbeats 8000000 in
set_option maxRecDepth 100000 in
theorem graftwoodlaw04_PathJoins.calls (k : Nat) (A0 : Option Addr) (c0 : Nat) (l0 : List ByteArray) (r : Bool) (w : World) (hr0 : Kd.C Kd.string w A0 l0.length l0) (hc0 : l0.length ≤ c0) (h : graftwoodlaw04_PathJoins.f k l0 = some r) :
    Calls Tryd.prog 4 #[.slice A0 l0.length c0] w fun e w' => e = .returned (.bool r) ∧ Below w.heap.size w w' := by
  have HR0 := Aside0.mk hr0
  have HC0 := Aside0.mk hc0
  clear hr0 hc0
  have HB := Aside0.mk (Below.refl w.heap.size w)
  have H : (graftwoodlaw04_PathJoins.l0 k l0 ([] : List ByteArray) (decide ((l0.length : Int) > 0)) (⟨#[]⟩ : ByteArray) 0) = some r := h
  clear h
  have H' := Aside0.mk H
  clear H
  go_enter Tryd.func4, Tryd.ntmps4
  go_wp2
  go_loopg [3, 4, 5, 6] k (fun kq v3 v4 v5 v6 w' => ∃ (x3_1 : List ByteArray) (x4_1 : Bool) (x5_1 : ByteArray) (x6_1 : Int), v4 = .bool x4_1 ∧ v5 = .string x5_1 ∧ v6 = .int .i64 x6_1 ∧ Aside0 (graftwoodlaw04_PathJoins.l0 kq l0 x3_1 x4_1 x5_1 x6_1 = some r) ∧ Aside0 (kq ≤ k) ∧ Aside0 (Kd.R Kd.string 9 w' w.heap.size (fun _ => True) v3 x3_1) ∧ Aside0 (Below w.heap.size w w'))
  case atStart => exact ⟨(([] : List ByteArray)), (decide ((l0.length : Int) > 0)), ((⟨#[]⟩ : ByteArray)), (0), (by first | rfl | (simp; done) | (simp [*]; done)), (by first | rfl | (simp; done) | (simp [*]; done)), (by first | rfl | (simp; done) | (simp [*]; done)), H', ⟨Nat.le_refl _⟩, ⟨by first | exact Kd.R_nil _ _ _ _ _ | exact Kd.N_nil _ _ _ _ _ | exact Kd.V_nil _ _ _ _ _ | exact Kd.Q_nil _ _ _ _ _ | exact Kd.S_nil _ _ _ _ _⟩, ⟨by repeat (first | (with_reducible first | exact HB.out | apply below_alloc | apply pw_below_drewN | apply below_drew1) | exact HB.out)⟩⟩
  case round =>
    clear H'
    obtain ⟨x3_1, x4_1, x5_1, x6_1, rfl, rfl, rfl, HA, HK1, HO_3, HB⟩ := hrel
    cases gk with
    | zero => exact absurd HA.out (by simp [graftwoodlaw04_PathJoins.l0])
    | succ k1 =>
      have H := HA.out
      clear HA
      simp only [graftwoodlaw04_PathJoins.l0] at H
      have HC2 := Aside0.mk H
      clear H
      go_upto_region 4 with (fail)
      go_cut [19] (fun v19 wc => ∃ (kq : Nat) (x19_1 : Bool), v19 = .bool x19_1 ∧ Aside0 (graftwoodlaw04_PathJoins.j1 kq l0 x3_1 x4_1 x5_1 x6_1 x19_1 = some r) ∧ Aside0 (kq ≤ k1) ∧ Aside0 (Kd.R Kd.string 9 wc w.heap.size (fun _ => True) u3 x3_1) ∧ Aside0 (Below w.heap.size w wc))
      case first =>
        have H := HC2.out
        clear HC2
        by_cases c3 : x6_1 < (l0.length : Int)
        · rw [if_pos c3] at H
          have c3b0 : decide (x6_1 < (l0.length : Int)) = true := decide_eq_true c3
          clear c3
          (first | rw [c3b0] | (simp only [i64_w, i32_w]; rw [c3b0]) | skip)
          have H' := Aside0.mk H
          clear H
          go_wp2
          go_meet
          case rel => exact ⟨_, (decide (x6_1 < 8)), (by first | rfl | (simp; done) | (simp [*]; done)), H', ⟨by have := HK1.out; first | omega | exact Nat.le_refl _⟩, ⟨by (with_reducible repeat (first | apply Kd.R_alloc | apply Kd.R_drewN | apply Kd.R_drew)); exact HO_3.out⟩, ⟨by repeat (first | (with_reducible first | exact HB.out | apply below_alloc | apply pw_below_drewN | apply below_drew1) | exact HB.out)⟩⟩
        · rw [if_neg c3] at H
          have c3b0 : decide (x6_1 < (l0.length : Int)) = false := decide_eq_false c3
          clear c3
          (first | rw [c3b0] | (simp only [i64_w, i32_w]; rw [c3b0]) | skip)
          have H' := Aside0.mk H
          clear H
          go_wp2
          go_meet
          case rel => exact ⟨_, (false), (by first | rfl | (simp; done) | (simp [*]; done)), H', ⟨by have := HK1.out; first | omega | exact Nat.le_refl _⟩, ⟨by (with_reducible repeat (first | apply Kd.R_alloc | apply Kd.R_drewN | apply Kd.R_drew)); exact HO_3.out⟩, ⟨by repeat (first | (with_reducible first | exact HB.out | apply below_alloc | apply pw_below_drewN | apply below_drew1) | exact HB.out)⟩⟩
      case rest =>
        clear HC2
        try clear p2
        try clear c3
        try clear c3b0
        obtain ⟨kq, x19_1, rfl, HA, HJ1, HO_3, HB⟩ := hcut
        cases kq with
        | zero => exact absurd HA.out (by simp [graftwoodlaw04_PathJoins.j1])
        | succ kj1 =>
          have H := HA.out
          clear HA
          simp only [graftwoodlaw04_PathJoins.j1] at H
          by_cases c4 : x19_1 = true
          · subst c4
            have H1 : (if 0 ≤ x6_1 then (if x6_1 < (l0.length : Int) then ((graftwoodlaw01_Few.f (rdOf ByteArray.empty l0 x6_1)).bind fun t172 => (if x3_1.length < 8796093022208 then ((some (x3_1 ++ [t172] : List ByteArray)).bind fun y173 => (if x4_1 = true then (if x6_1 < (y173.length : Int) then ((graftwoodref04_Element.f kj1 (rdOf ByteArray.empty y173 x6_1)).bind fun t177 => (if x6_1 > 0 then (if x5_1.size + 1 ≤ 9223372036854775807 then (if (x5_1 ++ (⟨#[47]⟩ : ByteArray)).size + (rdOf ByteArray.empty y173 x6_1).size ≤ 9223372036854775807 then (graftwoodlaw04_PathJoins.l0 kj1 l0 y173 t177 ((x5_1 ++ (⟨#[47]⟩ : ByteArray)) ++ (rdOf ByteArray.empty y173 x6_1)) (wrap64 (x6_1 + 1))) else (none)) else (none)) else (if x5_1.size + (rdOf ByteArray.empty y173 x6_1).size ≤ 9223372036854775807 then (graftwoodlaw04_PathJoins.l0 kj1 l0 y173 t177 (x5_1 ++ (rdOf ByteArray.empty y173 x6_1)) (wrap64 (x6_1 + 1))) else (none)))) else (none)) else (if x6_1 > 0 then (if x5_1.size + 1 ≤ 9223372036854775807 then (if x6_1 < (y173.length : Int) then (if (x5_1 ++ (⟨#[47]⟩ : ByteArray)).size + (rdOf ByteArray.empty y173 x6_1).size ≤ 9223372036854775807 then (graftwoodlaw04_PathJoins.l0 kj1 l0 y173 false ((x5_1 ++ (⟨#[47]⟩ : ByteArray)) ++ (rdOf ByteArray.empty y173 x6_1)) (wrap64 (x6_1 + 1))) else (none)) else (none)) else (none)) else (if x6_1 < (y173.length : Int) then (if x5_1.size + (rdOf ByteArray.empty y173 x6_1).size ≤ 9223372036854775807 then (graftwoodlaw04_PathJoins.l0 kj1 l0 y173 false (x5_1 ++ (rdOf ByteArray.empty y173 x6_1)) (wrap64 (x6_1 + 1))) else (none)) else (none))))) else (none))) else (none)) else (none)) = some r := by rw [if_pos rfl] at H; exact H
            clear H
            have H := H1
            clear H1
            by_cases c5 : 0 ≤ x6_1
            · rw [if_pos c5] at H
              have c5b0 : decide (0 ≤ x6_1) = true := decide_eq_true c5
              clear c5
              by_cases c6 : x6_1 < (l0.length : Int)
              · rw [if_pos c6] at H
                have c6b0 : decide (x6_1 < (l0.length : Int)) = true := decide_eq_true c6
                clear c6
                replace H := Option.bind_eq_some_iff.mp H
                obtain ⟨t172, A70, H⟩ := H
                replace H : (if x3_1.length < 8796093022208 then ((some (x3_1 ++ [t172] : List ByteArray)).bind fun y173 => (if x4_1 = true then (if x6_1 < (y173.length : Int) then ((graftwoodref04_Element.f kj1 (rdOf ByteArray.empty y173 x6_1)).bind fun t177 => (if x6_1 > 0 then (if x5_1.size + 1 ≤ 9223372036854775807 then (if (x5_1 ++ (⟨#[47]⟩ : ByteArray)).size + (rdOf ByteArray.empty y173 x6_1).size ≤ 9223372036854775807 then (graftwoodlaw04_PathJoins.l0 kj1 l0 y173 t177 ((x5_1 ++ (⟨#[47]⟩ : ByteArray)) ++ (rdOf ByteArray.empty y173 x6_1)) (wrap64 (x6_1 + 1))) else (none)) else (none)) else (if x5_1.size + (rdOf ByteArray.empty y173 x6_1).size ≤ 9223372036854775807 then (graftwoodlaw04_PathJoins.l0 kj1 l0 y173 t177 (x5_1 ++ (rdOf ByteArray.empty y173 x6_1)) (wrap64 (x6_1 + 1))) else (none)))) else (none)) else (if x6_1 > 0 then (if x5_1.size + 1 ≤ 9223372036854775807 then (if x6_1 < (y173.length : Int) then (if (x5_1 ++ (⟨#[47]⟩ : ByteArray)).size + (rdOf ByteArray.empty y173 x6_1).size ≤ 9223372036854775807 then (graftwoodlaw04_PathJoins.l0 kj1 l0 y173 false ((x5_1 ++ (⟨#[47]⟩ : ByteArray)) ++ (rdOf ByteArray.empty y173 x6_1)) (wrap64 (x6_1 + 1))) else (none)) else (none)) else (none)) else (if x6_1 < (y173.length : Int) then (if x5_1.size + (rdOf ByteArray.empty y173 x6_1).size ≤ 9223372036854775807 then (graftwoodlaw04_PathJoins.l0 kj1 l0 y173 false (x5_1 ++ (rdOf ByteArray.empty y173 x6_1)) (wrap64 (x6_1 + 1))) else (none)) else (none))))) else (none)) = some r := H
                have A7 := Aside0.mk A70
                clear A70
                by_cases c8 : x3_1.length < 8796093022208
                · rw [if_pos c8] at H
                  have LMc8 := Aside0.mk c8
                  clear c8
                  obtain ⟨y173, hy173⟩ : ∃ y_ : List ByteArray, y_ = (x3_1 ++ [t172]) := ⟨_, rfl⟩
                  replace H : (if x4_1 = true then (if x6_1 < (y173.length : Int) then ((graftwoodref04_Element.f kj1 (rdOf ByteArray.empty y173 x6_1)).bind fun t177 => (if x6_1 > 0 then (if x5_1.size + 1 ≤ 9223372036854775807 then (if (x5_1 ++ (⟨#[47]⟩ : ByteArray)).size + (rdOf ByteArray.empty y173 x6_1).size ≤ 9223372036854775807 then (graftwoodlaw04_PathJoins.l0 kj1 l0 y173 t177 ((x5_1 ++ (⟨#[47]⟩ : ByteArray)) ++ (rdOf ByteArray.empty y173 x6_1)) (wrap64 (x6_1 + 1))) else (none)) else (none)) else (if x5_1.size + (rdOf ByteArray.empty y173 x6_1).size ≤ 9223372036854775807 then (graftwoodlaw04_PathJoins.l0 kj1 l0 y173 t177 (x5_1 ++ (rdOf ByteArray.empty y173 x6_1)) (wrap64 (x6_1 + 1))) else (none)))) else (none)) else (if x6_1 > 0 then (if x5_1.size + 1 ≤ 9223372036854775807 then (if x6_1 < (y173.length : Int) then (if (x5_1 ++ (⟨#[47]⟩ : ByteArray)).size + (rdOf ByteArray.empty y173 x6_1).size ≤ 9223372036854775807 then (graftwoodlaw04_PathJoins.l0 kj1 l0 y173 false ((x5_1 ++ (⟨#[47]⟩ : ByteArray)) ++ (rdOf ByteArray.empty y173 x6_1)) (wrap64 (x6_1 + 1))) else (none)) else (none)) else (none)) else (if x6_1 < (y173.length : Int) then (if x5_1.size + (rdOf ByteArray.empty y173 x6_1).size ≤ 9223372036854775807 then (graftwoodlaw04_PathJoins.l0 kj1 l0 y173 false (x5_1 ++ (rdOf ByteArray.empty y173 x6_1)) (wrap64 (x6_1 + 1))) else (none)) else (none)))) = some r := by first | (rw [hy173]; with_reducible exact H) | (have H2_ := (Option.bind_some _ _).symm.trans H; rw [hy173]; with_reducible exact H2_) | (have H2_ := (Option.bind_some _ _).symm.trans H; with_reducible exact H2_) | with_reducible exact H | (rw [hy173]; exact H) | exact H
                  have Ny173 := Aside0.mk hy173
                  clear hy173
                  by_cases c9 : x4_1 = true
                  · subst c9
                    have H1 : (if x6_1 < (y173.length : Int) then ((graftwoodref04_Element.f kj1 (rdOf ByteArray.empty y173 x6_1)).bind fun t177 => (if x6_1 > 0 then (if x5_1.size + 1 ≤ 9223372036854775807 then (if (x5_1 ++ (⟨#[47]⟩ : ByteArray)).size + (rdOf ByteArray.empty y173 x6_1).size ≤ 9223372036854775807 then (graftwoodlaw04_PathJoins.l0 kj1 l0 y173 t177 ((x5_1 ++ (⟨#[47]⟩ : ByteArray)) ++ (rdOf ByteArray.empty y173 x6_1)) (wrap64 (x6_1 + 1))) else (none)) else (none)) else (if x5_1.size + (rdOf ByteArray.empty y173 x6_1).size ≤ 9223372036854775807 then (graftwoodlaw04_PathJoins.l0 kj1 l0 y173 t177 (x5_1 ++ (rdOf ByteArray.empty y173 x6_1)) (wrap64 (x6_1 + 1))) else (none)))) else (none)) = some r := by rw [if_pos rfl] at H; exact H
                    clear H
                    have H := H1
                    clear H1
                    by_cases c10 : x6_1 < (y173.length : Int)
                    · rw [if_pos c10] at H
                      have c10b0 : decide (x6_1 < (y173.length : Int)) = true := decide_eq_true c10
                      clear c10
                      replace H := Option.bind_eq_some_iff.mp H
                      obtain ⟨t177, A110, H⟩ := H
                      replace H : (if x6_1 > 0 then (if x5_1.size + 1 ≤ 9223372036854775807 then (if (x5_1 ++ (⟨#[47]⟩ : ByteArray)).size + (rdOf ByteArray.empty y173 x6_1).size ≤ 9223372036854775807 then (graftwoodlaw04_PathJoins.l0 kj1 l0 y173 t177 ((x5_1 ++ (⟨#[47]⟩ : ByteArray)) ++ (rdOf ByteArray.empty y173 x6_1)) (wrap64 (x6_1 + 1))) else (none)) else (none)) else (if x5_1.size + (rdOf ByteArray.empty y173 x6_1).size ≤ 9223372036854775807 then (graftwoodlaw04_PathJoins.l0 kj1 l0 y173 t177 (x5_1 ++ (rdOf ByteArray.empty y173 x6_1)) (wrap64 (x6_1 + 1))) else (none))) = some r := H
                      have A11 := Aside0.mk A110
                      clear A110
                      by_cases c12 : x6_1 > 0
                      · rw [if_pos c12] at H
                        have c12b0 : decide (0 < x6_1) = true := decide_eq_true c12
                        clear c12
                        by_cases c13 : x5_1.size + 1 ≤ 9223372036854775807
                        · rw [if_pos c13] at H
                          have c13b0 := eq_true c13
                          have c13b1 : decide (x5_1.size + 1 ≤ 9223372036854775807) = true := decide_eq_true c13
                          try have c13b2 : (9223372036854775807 < x5_1.size + 1) = False := eq_false (Nat.not_lt.2 c13)
                          by_cases c14 : (x5_1 ++ (⟨#[47]⟩ : ByteArray)).size + (rdOf ByteArray.empty y173 x6_1).size ≤ 9223372036854775807
                          · rw [if_pos c14] at H
                            have c14b0 := eq_true c14
                            have c14b1 : decide ((x5_1 ++ (⟨#[47]⟩ : ByteArray)).size + (rdOf ByteArray.empty y173 x6_1).size ≤ 9223372036854775807) = true := decide_eq_true c14
                            try have c14b2 : (9223372036854775807 < (x5_1 ++ (⟨#[47]⟩ : ByteArray)).size + (rdOf ByteArray.empty y173 x6_1).size) = False := eq_false (Nat.not_lt.2 c14)
                            have H' := Aside0.mk H
                            clear H
                            have p171 : 0 ≤ (x6_1 : Int) := of_decide_eq_true (by first | (with_reducible assumption) | assumption)
                            have q171 : x6_1 < (l0.length : Int) := of_decide_eq_true (by first | (with_reducible assumption) | assumption)
                            obtain ⟨ad171, e171, hx171_0⟩ := Kd.at_string HR0.out x6_1 p171 q171
                            cases e171
                            replace hx171_0 := (HB.out.cell (World.block_lt_of_cell? w _ hx171_0)).trans hx171_0
                            replace p171 := eq_true p171
                            replace q171 := eq_true q171
                            go_wp2_with (first | ((with_reducible refine gate_callee (f := 9) rfl ?_); refine goesL_ (some 27) rfl rfl Tryd.func9 (by kernel_rfl) rfl #[.string (rdOf ByteArray.empty l0 x6_1)] rfl (by (try simp only [List.map_toArray, List.map_cons, List.map_nil]); first | done | rfl | (simp only [List.length_drop, List.length_take]; rfl)) ?_; (with_reducible refine (graftwoodlaw01_Few.calls (rdOf ByteArray.empty l0 x6_1) t172 _ A7.out).mono ?_); rintro e w' ⟨rfl, ⟨nd, rfl⟩⟩; refine ⟨_, rfl, ?_⟩) | ((with_reducible refine gate_builtin (b := .append) (xs := #[.tmp 22, .tmp 28]) rfl ?_); at_builtin; refine Kd.R_append Kd.string (w0 := w) w.heap.size rfl (.tmp 22) (.tmp 28) 23 9 (.string ⟨#[]⟩) 16 rfl Tryd.underlying23 info9 rfl (by decide) (by omega) u3 x3_1 t172 [.string t172] (fun _ => True) (fun _ => False) rfl rfl ?aP (fun _ hk => hk.elim) ?aF ?aO ?aB ?aS ?aL ?_; (case aP => exact rfl); (case aB => exact (by repeat (first | (with_reducible first | exact HB.out | apply below_alloc | apply pw_below_drewN | apply below_drew1) | exact HB.out))); (case aF => exact (fun _ _ => trivial)); (case aO => exact (by (with_reducible repeat (first | apply Kd.R_alloc | apply Kd.R_drewN | apply Kd.R_drew)); exact HO_3.out)); (case aS => exact (below_size (by repeat (first | (with_reducible first | exact HB.out | apply below_alloc | apply pw_below_drewN | apply below_drew1) | exact HB.out)))); (case aL => have := LMc8.out; omega); intro v174 w15 ho hb hg hat; rw [← Ny173.out] at ho; have n0_ := Aside0.mk (hb); have n1_ := Aside0.mk (ho); clear HB; clear HO_3; have HB := n0_; have HO175 := n1_; clear n0_ n1_; clear ho hb hg hat; obtain ⟨Ao16, co16, eo16⟩ := Kd.R_slice HO175.out; subst eo16; have p176 : 0 ≤ (x6_1 : Int) := of_decide_eq_true (by first | (with_reducible assumption) | assumption); have q176 : x6_1 < (y173.length : Int) := of_decide_eq_true (by first | (with_reducible assumption) | assumption); obtain ⟨ad176, e176, hx176_0⟩ := Kd.at_string (Kd.R_reads' HO175.out).2.2 x6_1 p176 q176; cases e176; replace p176 := eq_true p176; replace q176 := eq_true q176) | (go_at_call 18; (with_reducible refine (graftwoodref04_Element.calls kj1 (rdOf ByteArray.empty y173 x6_1) t177 _ A11.out).mono ?_); rintro e w' ⟨rfl, ⟨nd, rfl⟩⟩; have p178 : 0 ≤ (x6_1 : Int) := of_decide_eq_true (by first | (with_reducible assumption) | assumption); have q178 : x6_1 < (y173.length : Int) := of_decide_eq_true (by first | (with_reducible assumption) | assumption); obtain ⟨ad178, e178, hx178_0⟩ := Kd.at_string (Kd.R_reads' HO175.out).2.2 x6_1 p178 q178; obtain rfl : ad176 = ad178 := (by injection e178); replace p178 := eq_true p178; replace q178 := eq_true q178))
                            go_roundg kj1
                            case measure => have := HK1.out; have := HJ1.out; omega
                            case rel => exact ⟨(y173), (t177), ((x5_1 ++ (⟨#[47]⟩ : ByteArray)) ++ (rdOf ByteArray.empty y173 x6_1)), (wrap64 (x6_1 + 1)), (by first | rfl | (simp; done) | (simp [*]; done)), (by first | rfl | (simp; done) | (simp [*]; done)), (by first | rfl | (simp; done) | (simp [*]; done)), H', ⟨by have := HK1.out; have := HJ1.out; omega⟩, ⟨by (with_reducible repeat (first | apply Kd.R_alloc | apply Kd.R_drewN | apply Kd.R_drew)); exact HO175.out⟩, ⟨by repeat (first | (with_reducible first | exact HB.out | apply below_alloc | apply pw_below_drewN | apply below_drew1) | exact HB.out)⟩⟩
                          · rw [if_neg c14] at H
                            exact absurd H (by simp)
                        · rw [if_neg c13] at H
                          exact absurd H (by simp)
                      · rw [if_neg c12] at H
                        have c12b0 : decide (0 < x6_1) = false := decide_eq_false c12
                        clear c12
                        by_cases c17 : x5_1.size + (rdOf ByteArray.empty y173 x6_1).size ≤ 9223372036854775807
                        · rw [if_pos c17] at H
                          have c17b0 := eq_true c17
                          have c17b1 : decide (x5_1.size + (rdOf ByteArray.empty y173 x6_1).size ≤ 9223372036854775807) = true := decide_eq_true c17
                          try have c17b2 : (9223372036854775807 < x5_1.size + (rdOf ByteArray.empty y173 x6_1).size) = False := eq_false (Nat.not_lt.2 c17)
                          have H' := Aside0.mk H
                          clear H
                          have p171 : 0 ≤ (x6_1 : Int) := of_decide_eq_true (by first | (with_reducible assumption) | assumption)
                          have q171 : x6_1 < (l0.length : Int) := of_decide_eq_true (by first | (with_reducible assumption) | assumption)
                          obtain ⟨ad171, e171, hx171_0⟩ := Kd.at_string HR0.out x6_1 p171 q171
                          cases e171
                          replace hx171_0 := (HB.out.cell (World.block_lt_of_cell? w _ hx171_0)).trans hx171_0
                          replace p171 := eq_true p171
                          replace q171 := eq_true q171
                          go_wp2_with (first | ((with_reducible refine gate_callee (f := 9) rfl ?_); refine goesL_ (some 27) rfl rfl Tryd.func9 (by kernel_rfl) rfl #[.string (rdOf ByteArray.empty l0 x6_1)] rfl (by (try simp only [List.map_toArray, List.map_cons, List.map_nil]); first | done | rfl | (simp only [List.length_drop, List.length_take]; rfl)) ?_; (with_reducible refine (graftwoodlaw01_Few.calls (rdOf ByteArray.empty l0 x6_1) t172 _ A7.out).mono ?_); rintro e w' ⟨rfl, ⟨nd, rfl⟩⟩; refine ⟨_, rfl, ?_⟩) | ((with_reducible refine gate_builtin (b := .append) (xs := #[.tmp 22, .tmp 28]) rfl ?_); at_builtin; refine Kd.R_append Kd.string (w0 := w) w.heap.size rfl (.tmp 22) (.tmp 28) 23 9 (.string ⟨#[]⟩) 16 rfl Tryd.underlying23 info9 rfl (by decide) (by omega) u3 x3_1 t172 [.string t172] (fun _ => True) (fun _ => False) rfl rfl ?aP (fun _ hk => hk.elim) ?aF ?aO ?aB ?aS ?aL ?_; (case aP => exact rfl); (case aB => exact (by repeat (first | (with_reducible first | exact HB.out | apply below_alloc | apply pw_below_drewN | apply below_drew1) | exact HB.out))); (case aF => exact (fun _ _ => trivial)); (case aO => exact (by (with_reducible repeat (first | apply Kd.R_alloc | apply Kd.R_drewN | apply Kd.R_drew)); exact HO_3.out)); (case aS => exact (below_size (by repeat (first | (with_reducible first | exact HB.out | apply below_alloc | apply pw_below_drewN | apply below_drew1) | exact HB.out)))); (case aL => have := LMc8.out; omega); intro v174 w18 ho hb hg hat; rw [← Ny173.out] at ho; have n0_ := Aside0.mk (hb); have n1_ := Aside0.mk (ho); clear HB; clear HO_3; have HB := n0_; have HO175 := n1_; clear n0_ n1_; clear ho hb hg hat; obtain ⟨Ao19, co19, eo19⟩ := Kd.R_slice HO175.out; subst eo19; have p176 : 0 ≤ (x6_1 : Int) := of_decide_eq_true (by first | (with_reducible assumption) | assumption); have q176 : x6_1 < (y173.length : Int) := of_decide_eq_true (by first | (with_reducible assumption) | assumption); obtain ⟨ad176, e176, hx176_0⟩ := Kd.at_string (Kd.R_reads' HO175.out).2.2 x6_1 p176 q176; cases e176; replace p176 := eq_true p176; replace q176 := eq_true q176) | (go_at_call 18; (with_reducible refine (graftwoodref04_Element.calls kj1 (rdOf ByteArray.empty y173 x6_1) t177 _ A11.out).mono ?_); rintro e w' ⟨rfl, ⟨nd, rfl⟩⟩; have p179 : 0 ≤ (x6_1 : Int) := of_decide_eq_true (by first | (with_reducible assumption) | assumption); have q179 : x6_1 < (y173.length : Int) := of_decide_eq_true (by first | (with_reducible assumption) | assumption); obtain ⟨ad179, e179, hx179_0⟩ := Kd.at_string (Kd.R_reads' HO175.out).2.2 x6_1 p179 q179; obtain rfl : ad176 = ad179 := (by injection e179); replace p179 := eq_true p179; replace q179 := eq_true q179))
                          go_roundg kj1
                          case measure => have := HK1.out; have := HJ1.out; omega
                          case rel => exact ⟨(y173), (t177), (x5_1 ++ (rdOf ByteArray.empty y173 x6_1)), (wrap64 (x6_1 + 1)), (by first | rfl | (simp; done) | (simp [*]; done)), (by first | rfl | (simp; done) | (simp [*]; done)), (by first | rfl | (simp; done) | (simp [*]; done)), H', ⟨by have := HK1.out; have := HJ1.out; omega⟩, ⟨by (with_reducible repeat (first | apply Kd.R_alloc | apply Kd.R_drewN | apply Kd.R_drew)); exact HO175.out⟩, ⟨by repeat (first | (with_reducible first | exact HB.out | apply below_alloc | apply pw_below_drewN | apply below_drew1) | exact HB.out)⟩⟩
                        · rw [if_neg c17] at H
                          exact absurd H (by simp)
                    · rw [if_neg c10] at H
                      exact absurd H (by simp)
                  · replace c9 := Bool.eq_false_iff.mpr c9
                    subst c9
                    have H1 : (if x6_1 > 0 then (if x5_1.size + 1 ≤ 9223372036854775807 then (if x6_1 < (y173.length : Int) then (if (x5_1 ++ (⟨#[47]⟩ : ByteArray)).size + (rdOf ByteArray.empty y173 x6_1).size ≤ 9223372036854775807 then (graftwoodlaw04_PathJoins.l0 kj1 l0 y173 false ((x5_1 ++ (⟨#[47]⟩ : ByteArray)) ++ (rdOf ByteArray.empty y173 x6_1)) (wrap64 (x6_1 + 1))) else (none)) else (none)) else (none)) else (if x6_1 < (y173.length : Int) then (if x5_1.size + (rdOf ByteArray.empty y173 x6_1).size ≤ 9223372036854775807 then (graftwoodlaw04_PathJoins.l0 kj1 l0 y173 false (x5_1 ++ (rdOf ByteArray.empty y173 x6_1)) (wrap64 (x6_1 + 1))) else (none)) else (none))) = some r := by rw [if_neg (show ¬ (false = true) by decide)] at H; exact H
                    clear H
                    have H := H1
                    clear H1
                    by_cases c20 : x6_1 > 0
                    · rw [if_pos c20] at H
                      have c20b0 : decide (0 < x6_1) = true := decide_eq_true c20
                      clear c20
                      by_cases c21 : x5_1.size + 1 ≤ 9223372036854775807
                      · rw [if_pos c21] at H
                        have c21b0 := eq_true c21
                        have c21b1 : decide (x5_1.size + 1 ≤ 9223372036854775807) = true := decide_eq_true c21
                        try have c21b2 : (9223372036854775807 < x5_1.size + 1) = False := eq_false (Nat.not_lt.2 c21)
                        by_cases c22 : x6_1 < (y173.length : Int)
                        · rw [if_pos c22] at H
                          have c22b0 : decide (x6_1 < (y173.length : Int)) = true := decide_eq_true c22
                          clear c22
                          by_cases c23 : (x5_1 ++ (⟨#[47]⟩ : ByteArray)).size + (rdOf ByteArray.empty y173 x6_1).size ≤ 9223372036854775807
                          · rw [if_pos c23] at H
                            have c23b0 := eq_true c23
                            have c23b1 : decide ((x5_1 ++ (⟨#[47]⟩ : ByteArray)).size + (rdOf ByteArray.empty y173 x6_1).size ≤ 9223372036854775807) = true := decide_eq_true c23
                            try have c23b2 : (9223372036854775807 < (x5_1 ++ (⟨#[47]⟩ : ByteArray)).size + (rdOf ByteArray.empty y173 x6_1).size) = False := eq_false (Nat.not_lt.2 c23)
                            have H' := Aside0.mk H
                            clear H
                            have p171 : 0 ≤ (x6_1 : Int) := of_decide_eq_true (by first | (with_reducible assumption) | assumption)
                            have q171 : x6_1 < (l0.length : Int) := of_decide_eq_true (by first | (with_reducible assumption) | assumption)
                            obtain ⟨ad171, e171, hx171_0⟩ := Kd.at_string HR0.out x6_1 p171 q171
                            cases e171
                            replace hx171_0 := (HB.out.cell (World.block_lt_of_cell? w _ hx171_0)).trans hx171_0
                            replace p171 := eq_true p171
                            replace q171 := eq_true q171
                            go_wp2_with (first | ((with_reducible refine gate_callee (f := 9) rfl ?_); refine goesL_ (some 27) rfl rfl Tryd.func9 (by kernel_rfl) rfl #[.string (rdOf ByteArray.empty l0 x6_1)] rfl (by (try simp only [List.map_toArray, List.map_cons, List.map_nil]); first | done | rfl | (simp only [List.length_drop, List.length_take]; rfl)) ?_; (with_reducible refine (graftwoodlaw01_Few.calls (rdOf ByteArray.empty l0 x6_1) t172 _ A7.out).mono ?_); rintro e w' ⟨rfl, ⟨nd, rfl⟩⟩; refine ⟨_, rfl, ?_⟩) | ((with_reducible refine gate_builtin (b := .append) (xs := #[.tmp 22, .tmp 28]) rfl ?_); at_builtin; refine Kd.R_append Kd.string (w0 := w) w.heap.size rfl (.tmp 22) (.tmp 28) 23 9 (.string ⟨#[]⟩) 16 rfl Tryd.underlying23 info9 rfl (by decide) (by omega) u3 x3_1 t172 [.string t172] (fun _ => True) (fun _ => False) rfl rfl ?aP (fun _ hk => hk.elim) ?aF ?aO ?aB ?aS ?aL ?_; (case aP => exact rfl); (case aB => exact (by repeat (first | (with_reducible first | exact HB.out | apply below_alloc | apply pw_below_drewN | apply below_drew1) | exact HB.out))); (case aF => exact (fun _ _ => trivial)); (case aO => exact (by (with_reducible repeat (first | apply Kd.R_alloc | apply Kd.R_drewN | apply Kd.R_drew)); exact HO_3.out)); (case aS => exact (below_size (by repeat (first | (with_reducible first | exact HB.out | apply below_alloc | apply pw_below_drewN | apply below_drew1) | exact HB.out)))); (case aL => have := LMc8.out; omega); intro v174 w24 ho hb hg hat; rw [← Ny173.out] at ho; have n0_ := Aside0.mk (hb); have n1_ := Aside0.mk (ho); clear HB; clear HO_3; have HB := n0_; have HO175 := n1_; clear n0_ n1_; clear ho hb hg hat; obtain ⟨Ao25, co25, eo25⟩ := Kd.R_slice HO175.out; subst eo25; have p180 : 0 ≤ (x6_1 : Int) := of_decide_eq_true (by first | (with_reducible assumption) | assumption); have q180 : x6_1 < (y173.length : Int) := of_decide_eq_true (by first | (with_reducible assumption) | assumption); obtain ⟨ad180, e180, hx180_0⟩ := Kd.at_string (Kd.R_reads' HO175.out).2.2 x6_1 p180 q180; cases e180; replace p180 := eq_true p180; replace q180 := eq_true q180))
                            go_roundg kj1
                            case measure => have := HK1.out; have := HJ1.out; omega
                            case rel => exact ⟨(y173), (false), ((x5_1 ++ (⟨#[47]⟩ : ByteArray)) ++ (rdOf ByteArray.empty y173 x6_1)), (wrap64 (x6_1 + 1)), (by first | rfl | (simp; done) | (simp [*]; done)), (by first | rfl | (simp; done) | (simp [*]; done)), (by first | rfl | (simp; done) | (simp [*]; done)), H', ⟨by have := HK1.out; have := HJ1.out; omega⟩, ⟨by (with_reducible repeat (first | apply Kd.R_alloc | apply Kd.R_drewN | apply Kd.R_drew)); exact HO175.out⟩, ⟨by repeat (first | (with_reducible first | exact HB.out | apply below_alloc | apply pw_below_drewN | apply below_drew1) | exact HB.out)⟩⟩
                          · rw [if_neg c23] at H
                            exact absurd H (by simp)
                        · rw [if_neg c22] at H
                          exact absurd H (by simp)
                      · rw [if_neg c21] at H
                        exact absurd H (by simp)
                    · rw [if_neg c20] at H
                      have c20b0 : decide (0 < x6_1) = false := decide_eq_false c20
                      clear c20
                      by_cases c26 : x6_1 < (y173.length : Int)
                      · rw [if_pos c26] at H
                        have c26b0 : decide (x6_1 < (y173.length : Int)) = true := decide_eq_true c26
                        clear c26
                        by_cases c27 : x5_1.size + (rdOf ByteArray.empty y173 x6_1).size ≤ 9223372036854775807
                        · rw [if_pos c27] at H
                          have c27b0 := eq_true c27
                          have c27b1 : decide (x5_1.size + (rdOf ByteArray.empty y173 x6_1).size ≤ 9223372036854775807) = true := decide_eq_true c27
                          try have c27b2 : (9223372036854775807 < x5_1.size + (rdOf ByteArray.empty y173 x6_1).size) = False := eq_false (Nat.not_lt.2 c27)
                          have H' := Aside0.mk H
                          clear H
                          have p171 : 0 ≤ (x6_1 : Int) := of_decide_eq_true (by first | (with_reducible assumption) | assumption)
                          have q171 : x6_1 < (l0.length : Int) := of_decide_eq_true (by first | (with_reducible assumption) | assumption)
                          obtain ⟨ad171, e171, hx171_0⟩ := Kd.at_string HR0.out x6_1 p171 q171
                          cases e171
                          replace hx171_0 := (HB.out.cell (World.block_lt_of_cell? w _ hx171_0)).trans hx171_0
                          replace p171 := eq_true p171
                          replace q171 := eq_true q171
                          go_wp2_with (first | ((with_reducible refine gate_callee (f := 9) rfl ?_); refine goesL_ (some 27) rfl rfl Tryd.func9 (by kernel_rfl) rfl #[.string (rdOf ByteArray.empty l0 x6_1)] rfl (by (try simp only [List.map_toArray, List.map_cons, List.map_nil]); first | done | rfl | (simp only [List.length_drop, List.length_take]; rfl)) ?_; (with_reducible refine (graftwoodlaw01_Few.calls (rdOf ByteArray.empty l0 x6_1) t172 _ A7.out).mono ?_); rintro e w' ⟨rfl, ⟨nd, rfl⟩⟩; refine ⟨_, rfl, ?_⟩) | ((with_reducible refine gate_builtin (b := .append) (xs := #[.tmp 22, .tmp 28]) rfl ?_); at_builtin; refine Kd.R_append Kd.string (w0 := w) w.heap.size rfl (.tmp 22) (.tmp 28) 23 9 (.string ⟨#[]⟩) 16 rfl Tryd.underlying23 info9 rfl (by decide) (by omega) u3 x3_1 t172 [.string t172] (fun _ => True) (fun _ => False) rfl rfl ?aP (fun _ hk => hk.elim) ?aF ?aO ?aB ?aS ?aL ?_; (case aP => exact rfl); (case aB => exact (by repeat (first | (with_reducible first | exact HB.out | apply below_alloc | apply pw_below_drewN | apply below_drew1) | exact HB.out))); (case aF => exact (fun _ _ => trivial)); (case aO => exact (by (with_reducible repeat (first | apply Kd.R_alloc | apply Kd.R_drewN | apply Kd.R_drew)); exact HO_3.out)); (case aS => exact (below_size (by repeat (first | (with_reducible first | exact HB.out | apply below_alloc | apply pw_below_drewN | apply below_drew1) | exact HB.out)))); (case aL => have := LMc8.out; omega); intro v174 w28 ho hb hg hat; rw [← Ny173.out] at ho; have n0_ := Aside0.mk (hb); have n1_ := Aside0.mk (ho); clear HB; clear HO_3; have HB := n0_; have HO175 := n1_; clear n0_ n1_; clear ho hb hg hat; obtain ⟨Ao29, co29, eo29⟩ := Kd.R_slice HO175.out; subst eo29; have p181 : 0 ≤ (x6_1 : Int) := of_decide_eq_true (by first | (with_reducible assumption) | assumption); have q181 : x6_1 < (y173.length : Int) := of_decide_eq_true (by first | (with_reducible assumption) | assumption); obtain ⟨ad181, e181, hx181_0⟩ := Kd.at_string (Kd.R_reads' HO175.out).2.2 x6_1 p181 q181; cases e181; replace p181 := eq_true p181; replace q181 := eq_true q181))
                          go_roundg kj1
                          case measure => have := HK1.out; have := HJ1.out; omega
                          case rel => exact ⟨(y173), (false), (x5_1 ++ (rdOf ByteArray.empty y173 x6_1)), (wrap64 (x6_1 + 1)), (by first | rfl | (simp; done) | (simp [*]; done)), (by first | rfl | (simp; done) | (simp [*]; done)), (by first | rfl | (simp; done) | (simp [*]; done)), H', ⟨by have := HK1.out; have := HJ1.out; omega⟩, ⟨by (with_reducible repeat (first | apply Kd.R_alloc | apply Kd.R_drewN | apply Kd.R_drew)); exact HO175.out⟩, ⟨by repeat (first | (with_reducible first | exact HB.out | apply below_alloc | apply pw_below_drewN | apply below_drew1) | exact HB.out)⟩⟩
                        · rw [if_neg c27] at H
                          exact absurd H (by simp)
                      · rw [if_neg c26] at H
                        exact absurd H (by simp)
                · rw [if_neg c8] at H
                  exact absurd H (by simp)
              · rw [if_neg c6] at H
                exact absurd H (by simp)
            · rw [if_neg c5] at H
              exact absurd H (by simp)
          · replace c4 := Bool.eq_false_iff.mpr c4
            subst c4
            have H1 : ((path_Join.f kj1 x3_1).bind fun bt182 => (if x4_1 = true then (if bt182.1.toList = x5_1.toList then (if bt182.2 = 0 then ((graftwoodlaw04_awake.f kj1).bind fun t184 => (some t184)) else (some false)) else (some false)) else (if bt182.1.toList = ([] : List UInt8) then (if bt182.2 = 1 then ((graftwoodlaw04_awake.f kj1).bind fun t185 => (some t185)) else (some false)) else (some false)))) = some r := by rw [if_neg (show ¬ (false = true) by decide)] at H; exact H
            clear H
            have H := H1
            clear H1
            replace H := Option.bind_eq_some_iff.mp H
            obtain ⟨⟨t182, t183⟩, A300, H⟩ := H
            replace H : (if x4_1 = true then (if t182.toList = x5_1.toList then (if t183 = 0 then ((graftwoodlaw04_awake.f kj1).bind fun t184 => (some t184)) else (some false)) else (some false)) else (if t182.toList = ([] : List UInt8) then (if t183 = 1 then ((graftwoodlaw04_awake.f kj1).bind fun t185 => (some t185)) else (some false)) else (some false))) = some r := H
            have A30 := Aside0.mk A300
            clear A300
            by_cases c31 : x4_1 = true
            · subst c31
              have H1 : (if t182.toList = x5_1.toList then (if t183 = 0 then ((graftwoodlaw04_awake.f kj1).bind fun t184 => (some t184)) else (some false)) else (some false)) = some r := by rw [if_pos rfl] at H; exact H
              clear H
              have H := H1
              clear H1
              by_cases c32 : t182.toList = x5_1.toList
              · rw [if_pos c32] at H
                have c32b0 : (t182.toList == x5_1.toList) = true := beq_iff_eq.mpr c32
                have c32b1 : (t182.toList != x5_1.toList) = false := bne_eq_false_iff_eq.mpr c32
                clear c32
                by_cases c33 : t183 = 0
                · rw [if_pos c33] at H
                  have c33b0 : (t183 == 0) = true := beq_iff_eq.mpr c33
                  have c33b1 : (t183 != 0) = false := bne_eq_false_iff_eq.mpr c33
                  clear c33
                  replace H := Option.bind_eq_some_iff.mp H
                  obtain ⟨t184, A340, H⟩ := H
                  replace H : (some t184) = some r := H
                  have A34 := Aside0.mk A340
                  clear A340
                  obtain rfl := Option.some.inj H
                  obtain ⟨Ao35, co35, eo35⟩ := Kd.R_slice HO_3.out
                  subst eo35
                  go_wp2_with (first | ((with_reducible refine gate_callee (f := 19) rfl ?_); refine goesL_ (some 50) rfl rfl Tryd.func19 (by kernel_rfl) rfl #[.slice Ao35 x3_1.length co35] rfl (by (try simp only [List.map_toArray, List.map_cons, List.map_nil]); first | done | rfl | (simp only [List.length_drop, List.length_take]; rfl)) ?_; (with_reducible refine (path_Join.calls kj1 _ _ x3_1 t182 t183 _ ?side1 ?side2 A30.out).mono ?_); (case side1 => repeat (first | exact (Kd.R_reads' HO_3.out).2.2 | (with_reducible refine Kd.C_alloc ?_ _) | (with_reducible refine Kd.C_drewN ?_ _) | (with_reducible refine Kd.C_drew ?_))); (case side2 => exact (Kd.R_reads' HO_3.out).2.1); rintro e w36 ⟨rfl, hb⟩; refine ⟨_, rfl, ?_⟩; have n0_ := Aside0.mk (Kd.R_below (by (with_reducible repeat (first | apply Kd.R_alloc | apply Kd.R_drewN | apply Kd.R_drew)); exact HO_3.out) hb); have n1_ := Aside0.mk (below_step (by repeat (first | (with_reducible first | exact HB.out | apply below_alloc | apply pw_below_drewN | apply below_drew1) | exact HB.out)) hb); clear HO_3; clear HB; have HO_3 := n0_; have HB := n1_; clear n0_ n1_; (try clear hb); (try clear hb2); (try clear hk); (try clear hi)) | (go_at_call 15; (with_reducible refine (graftwoodlaw04_awake.calls kj1  t184 _ A34.out).mono ?_); rintro e w37 ⟨rfl, hb⟩; have n0_ := Aside0.mk (Kd.R_below (by (with_reducible repeat (first | apply Kd.R_alloc | apply Kd.R_drewN | apply Kd.R_drew)); exact HO_3.out) hb); have n1_ := Aside0.mk (below_step (by repeat (first | (with_reducible first | exact HB.out | apply below_alloc | apply pw_below_drewN | apply below_drew1) | exact HB.out)) hb); clear HO_3; clear HB; have HO_3 := n0_; have HB := n1_; clear n0_ n1_; (try clear hb); (try clear hb2); (try clear hk); (try clear hi)))
                  go_ret
                  exact ⟨by first | rfl | (simp [errW_none, errW_some] <;> rfl) | (simp [*, errW_none, errW_some] <;> rfl), by repeat (first | (with_reducible first | exact HB.out | apply below_alloc | apply pw_below_drewN | apply below_drew1) | exact HB.out)⟩
                · rw [if_neg c33] at H
                  have c33b0 : (t183 == 0) = false := beq_eq_false_iff_ne.mpr c33
                  have c33b1 : (t183 != 0) = true := bne_iff_ne.mpr c33
                  obtain rfl := Option.some.inj H
                  obtain ⟨Ao38, co38, eo38⟩ := Kd.R_slice HO_3.out
                  subst eo38
                  go_wp2_with (first | ((with_reducible refine gate_callee (f := 19) rfl ?_); refine goesL_ (some 50) rfl rfl Tryd.func19 (by kernel_rfl) rfl #[.slice Ao38 x3_1.length co38] rfl (by (try simp only [List.map_toArray, List.map_cons, List.map_nil]); first | done | rfl | (simp only [List.length_drop, List.length_take]; rfl)) ?_; (with_reducible refine (path_Join.calls kj1 _ _ x3_1 t182 t183 _ ?side1 ?side2 A30.out).mono ?_); (case side1 => repeat (first | exact (Kd.R_reads' HO_3.out).2.2 | (with_reducible refine Kd.C_alloc ?_ _) | (with_reducible refine Kd.C_drewN ?_ _) | (with_reducible refine Kd.C_drew ?_))); (case side2 => exact (Kd.R_reads' HO_3.out).2.1); rintro e w39 ⟨rfl, hb⟩; refine ⟨_, rfl, ?_⟩; have n0_ := Aside0.mk (Kd.R_below (by (with_reducible repeat (first | apply Kd.R_alloc | apply Kd.R_drewN | apply Kd.R_drew)); exact HO_3.out) hb); have n1_ := Aside0.mk (below_step (by repeat (first | (with_reducible first | exact HB.out | apply below_alloc | apply pw_below_drewN | apply below_drew1) | exact HB.out)) hb); clear HO_3; clear HB; have HO_3 := n0_; have HB := n1_; clear n0_ n1_; (try clear hb); (try clear hb2); (try clear hk); (try clear hi)))
                  go_ret
                  exact ⟨by first | rfl | (simp [errW_none, errW_some] <;> rfl) | (simp [*, errW_none, errW_some] <;> rfl), by repeat (first | (with_reducible first | exact HB.out | apply below_alloc | apply pw_below_drewN | apply below_drew1) | exact HB.out)⟩
              · rw [if_neg c32] at H
                have c32b0 : (t182.toList == x5_1.toList) = false := beq_eq_false_iff_ne.mpr c32
                have c32b1 : (t182.toList != x5_1.toList) = true := bne_iff_ne.mpr c32
                obtain rfl := Option.some.inj H
                obtain ⟨Ao40, co40, eo40⟩ := Kd.R_slice HO_3.out
                subst eo40
                go_wp2_with (first | ((with_reducible refine gate_callee (f := 19) rfl ?_); refine goesL_ (some 50) rfl rfl Tryd.func19 (by kernel_rfl) rfl #[.slice Ao40 x3_1.length co40] rfl (by (try simp only [List.map_toArray, List.map_cons, List.map_nil]); first | done | rfl | (simp only [List.length_drop, List.length_take]; rfl)) ?_; (with_reducible refine (path_Join.calls kj1 _ _ x3_1 t182 t183 _ ?side1 ?side2 A30.out).mono ?_); (case side1 => repeat (first | exact (Kd.R_reads' HO_3.out).2.2 | (with_reducible refine Kd.C_alloc ?_ _) | (with_reducible refine Kd.C_drewN ?_ _) | (with_reducible refine Kd.C_drew ?_))); (case side2 => exact (Kd.R_reads' HO_3.out).2.1); rintro e w41 ⟨rfl, hb⟩; refine ⟨_, rfl, ?_⟩; have n0_ := Aside0.mk (Kd.R_below (by (with_reducible repeat (first | apply Kd.R_alloc | apply Kd.R_drewN | apply Kd.R_drew)); exact HO_3.out) hb); have n1_ := Aside0.mk (below_step (by repeat (first | (with_reducible first | exact HB.out | apply below_alloc | apply pw_below_drewN | apply below_drew1) | exact HB.out)) hb); clear HO_3; clear HB; have HO_3 := n0_; have HB := n1_; clear n0_ n1_; (try clear hb); (try clear hb2); (try clear hk); (try clear hi)))
                go_ret
                exact ⟨by first | rfl | (simp [errW_none, errW_some] <;> rfl) | (simp [*, errW_none, errW_some] <;> rfl), by repeat (first | (with_reducible first | exact HB.out | apply below_alloc | apply pw_below_drewN | apply below_drew1) | exact HB.out)⟩
            · replace c31 := Bool.eq_false_iff.mpr c31
              subst c31
              have H1 : (if t182.toList = ([] : List UInt8) then (if t183 = 1 then ((graftwoodlaw04_awake.f kj1).bind fun t185 => (some t185)) else (some false)) else (some false)) = some r := by rw [if_neg (show ¬ (false = true) by decide)] at H; exact H
              clear H
              have H := H1
              clear H1
              by_cases c42 : t182.toList = ([] : List UInt8)
              · rw [if_pos c42] at H
                have c42b0 : (t182.toList == ([] : List UInt8)) = true := beq_iff_eq.mpr c42
                have c42b1 : (t182.toList != ([] : List UInt8)) = false := bne_eq_false_iff_eq.mpr c42
                clear c42
                by_cases c43 : t183 = 1
                · rw [if_pos c43] at H
                  have c43b0 : (t183 == 1) = true := beq_iff_eq.mpr c43
                  have c43b1 : (t183 != 1) = false := bne_eq_false_iff_eq.mpr c43
                  clear c43
                  replace H := Option.bind_eq_some_iff.mp H
                  obtain ⟨t185, A440, H⟩ := H
                  replace H : (some t185) = some r := H
                  have A44 := Aside0.mk A440
                  clear A440
                  obtain rfl := Option.some.inj H
                  obtain ⟨Ao45, co45, eo45⟩ := Kd.R_slice HO_3.out
                  subst eo45
                  go_wp2_with (first | ((with_reducible refine gate_callee (f := 19) rfl ?_); refine goesL_ (some 50) rfl rfl Tryd.func19 (by kernel_rfl) rfl #[.slice Ao45 x3_1.length co45] rfl (by (try simp only [List.map_toArray, List.map_cons, List.map_nil]); first | done | rfl | (simp only [List.length_drop, List.length_take]; rfl)) ?_; (with_reducible refine (path_Join.calls kj1 _ _ x3_1 t182 t183 _ ?side1 ?side2 A30.out).mono ?_); (case side1 => repeat (first | exact (Kd.R_reads' HO_3.out).2.2 | (with_reducible refine Kd.C_alloc ?_ _) | (with_reducible refine Kd.C_drewN ?_ _) | (with_reducible refine Kd.C_drew ?_))); (case side2 => exact (Kd.R_reads' HO_3.out).2.1); rintro e w46 ⟨rfl, hb⟩; refine ⟨_, rfl, ?_⟩; have n0_ := Aside0.mk (Kd.R_below (by (with_reducible repeat (first | apply Kd.R_alloc | apply Kd.R_drewN | apply Kd.R_drew)); exact HO_3.out) hb); have n1_ := Aside0.mk (below_step (by repeat (first | (with_reducible first | exact HB.out | apply below_alloc | apply pw_below_drewN | apply below_drew1) | exact HB.out)) hb); clear HO_3; clear HB; have HO_3 := n0_; have HB := n1_; clear n0_ n1_; (try clear hb); (try clear hb2); (try clear hk); (try clear hi)) | (go_at_call 15; (with_reducible refine (graftwoodlaw04_awake.calls kj1  t185 _ A44.out).mono ?_); rintro e w47 ⟨rfl, hb⟩; have n0_ := Aside0.mk (Kd.R_below (by (with_reducible repeat (first | apply Kd.R_alloc | apply Kd.R_drewN | apply Kd.R_drew)); exact HO_3.out) hb); have n1_ := Aside0.mk (below_step (by repeat (first | (with_reducible first | exact HB.out | apply below_alloc | apply pw_below_drewN | apply below_drew1) | exact HB.out)) hb); clear HO_3; clear HB; have HO_3 := n0_; have HB := n1_; clear n0_ n1_; (try clear hb); (try clear hb2); (try clear hk); (try clear hi)))
                  go_ret
                  exact ⟨by first | rfl | (simp [errW_none, errW_some] <;> rfl) | (simp [*, errW_none, errW_some] <;> rfl), by repeat (first | (with_reducible first | exact HB.out | apply below_alloc | apply pw_below_drewN | apply below_drew1) | exact HB.out)⟩
                · rw [if_neg c43] at H
                  have c43b0 : (t183 == 1) = false := beq_eq_false_iff_ne.mpr c43
                  have c43b1 : (t183 != 1) = true := bne_iff_ne.mpr c43
                  obtain rfl := Option.some.inj H
                  obtain ⟨Ao48, co48, eo48⟩ := Kd.R_slice HO_3.out
                  subst eo48
                  go_wp2_with (first | ((with_reducible refine gate_callee (f := 19) rfl ?_); refine goesL_ (some 50) rfl rfl Tryd.func19 (by kernel_rfl) rfl #[.slice Ao48 x3_1.length co48] rfl (by (try simp only [List.map_toArray, List.map_cons, List.map_nil]); first | done | rfl | (simp only [List.length_drop, List.length_take]; rfl)) ?_; (with_reducible refine (path_Join.calls kj1 _ _ x3_1 t182 t183 _ ?side1 ?side2 A30.out).mono ?_); (case side1 => repeat (first | exact (Kd.R_reads' HO_3.out).2.2 | (with_reducible refine Kd.C_alloc ?_ _) | (with_reducible refine Kd.C_drewN ?_ _) | (with_reducible refine Kd.C_drew ?_))); (case side2 => exact (Kd.R_reads' HO_3.out).2.1); rintro e w49 ⟨rfl, hb⟩; refine ⟨_, rfl, ?_⟩; have n0_ := Aside0.mk (Kd.R_below (by (with_reducible repeat (first | apply Kd.R_alloc | apply Kd.R_drewN | apply Kd.R_drew)); exact HO_3.out) hb); have n1_ := Aside0.mk (below_step (by repeat (first | (with_reducible first | exact HB.out | apply below_alloc | apply pw_below_drewN | apply below_drew1) | exact HB.out)) hb); clear HO_3; clear HB; have HO_3 := n0_; have HB := n1_; clear n0_ n1_; (try clear hb); (try clear hb2); (try clear hk); (try clear hi)))
                  go_ret
                  exact ⟨by first | rfl | (simp [errW_none, errW_some] <;> rfl) | (simp [*, errW_none, errW_some] <;> rfl), by repeat (first | (with_reducible first | exact HB.out | apply below_alloc | apply pw_below_drewN | apply below_drew1) | exact HB.out)⟩
              · rw [if_neg c42] at H
                have c42b0 : (t182.toList == ([] : List UInt8)) = false := beq_eq_false_iff_ne.mpr c42
                have c42b1 : (t182.toList != ([] : List UInt8)) = true := bne_iff_ne.mpr c42
                obtain rfl := Option.some.inj H
                obtain ⟨Ao50, co50, eo50⟩ := Kd.R_slice HO_3.out
                subst eo50
                go_wp2_with (first | ((with_reducible refine gate_callee (f := 19) rfl ?_); refine goesL_ (some 50) rfl rfl Tryd.func19 (by kernel_rfl) rfl #[.slice Ao50 x3_1.length co50] rfl (by (try simp only [List.map_toArray, List.map_cons, List.map_nil]); first | done | rfl | (simp only [List.length_drop, List.length_take]; rfl)) ?_; (with_reducible refine (path_Join.calls kj1 _ _ x3_1 t182 t183 _ ?side1 ?side2 A30.out).mono ?_); (case side1 => repeat (first | exact (Kd.R_reads' HO_3.out).2.2 | (with_reducible refine Kd.C_alloc ?_ _) | (with_reducible refine Kd.C_drewN ?_ _) | (with_reducible refine Kd.C_drew ?_))); (case side2 => exact (Kd.R_reads' HO_3.out).2.1); rintro e w51 ⟨rfl, hb⟩; refine ⟨_, rfl, ?_⟩; have n0_ := Aside0.mk (Kd.R_below (by (with_reducible repeat (first | apply Kd.R_alloc | apply Kd.R_drewN | apply Kd.R_drew)); exact HO_3.out) hb); have n1_ := Aside0.mk (below_step (by repeat (first | (with_reducible first | exact HB.out | apply below_alloc | apply pw_below_drewN | apply below_drew1) | exact HB.out)) hb); clear HO_3; clear HB; have HO_3 := n0_; have HB := n1_; clear n0_ n1_; (try clear hb); (try clear hb2); (try clear hk); (try clear hi)))
                go_ret
                exact ⟨by first | rfl | (simp [errW_none, errW_some] <;> rfl) | (simp [*, errW_none, errW_some] <;> rfl), by repeat (first | (with_reducible first | exact HB.out | apply below_alloc | apply pw_below_drewN | apply below_drew1) | exact HB.out)⟩

end Go.Proofs.YtgcgpcoeffillaaDoor.P
