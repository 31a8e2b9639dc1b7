-- half the indentation
import Derived.Test.YtknmfmedklfepaaGreatDoorSqz
import Derived.Test.YtknmfmedklfepaaGreatDoorP0
import Derived.Test.YtknmfmedklfepaaGreatDoorP5
namespace Go.Proofs.YtknmfmedklfepaaGreatDoor.P
open Go.RowKit Go.Proofs.YtknmfmedklfepaaGreatDoorW.PrintWords Go.Proofs.YtknmfmedklfepaaGreatDoorW.PrintLast Go.Proofs.YtknmfmedklfepaaGreatDoorW.PrintMore
attribute [local go_sem] max2_int min2_int max_two min_two max_three min_three max_four min_four
set_option linter.unusedVariables false
set_option linter.unusedSimpArgs false
set_option maxHeartbeats 8000000
set_option maxRecDepth 100000

/-! ### graftwoodref02_at: function 98 -/
def graftwoodref02_at.f (a0 : ByteArray) (a1 : Int) : Option (Int) := if a1 ≥ (a0.size : Int) then (some 0) else (if 0 ≤ (wrap64 ((wrap64 ((a0.size : Int) - 1)) - a1)) then (if (wrap64 ((wrap64 ((a0.size : Int) - 1)) - a1)) < (a0.size : Int) then ((graftwoodref02_digit.f (bt a0 (wrap64 ((wrap64 ((a0.size : Int) - 1)) - a1)))).bind fun ai => (some ai)) else (none)) else (none))
theorem graftwoodref02_at.calls (a0 : ByteArray) (a1 : Int) (r : Int) (w : World) (h : graftwoodref02_at.f a0 a1 = some r) :
  Calls Tryz.prog 98 #[.string a0, .int .i64 a1] w fun e w' => e = .returned (.int .i64 r) ∧ Drawn0 w w' := by
 unfold graftwoodref02_at.f at h; have H := h; clear h
 replace H := ifP H; rcases H with ⟨c3, H⟩ | ⟨c3, H⟩
 ·have aE : decide ((a0.size : Int) ≤ a1) = true := decide_eq_true c3
  clear c3
  obtain rfl := smI H
  go_enter Tryz.func98, Tryz.ntmps98
  go_wp2
  go_ret
  exact ⟨rfG, rfD⟩
 ·have aE : decide ((a0.size : Int) ≤ a1) = false := decide_eq_false c3
  clear c3
  obtain ⟨ji4, ap⟩ : ∃ j_ : Int, (wrap64 ((wrap64 ((a0.size : Int) - 1)) - a1)) = j_ := ⟨_, rfl⟩
  replace H : (if 0 ≤ (ji4) then (if (ji4) < (a0.size : Int) then ((graftwoodref02_digit.f (bt a0 (ji4))).bind fun ai => (some ai)) else (none)) else (none)) = some r := by first | (rw [ap] at H; exact H) | (simp only [ap] at H ⊢; exact H)
  have aI : (IntKind.i64.wrap ((wrap64 ((a0.size : Int) - 1)) - a1)) = ji4 := (i64_w _).trans ap
  replace H := ifP H; rcases H with ⟨c5, H⟩ | ⟨c5, H⟩
  ·have aL := decide_eq_true c5
   clear c5
   replace H := ifN H; obtain ⟨c6, H⟩ := H
   have aF := decide_eq_true c6
   clear c6
   replace H := bnd H; obtain ⟨ai, A8, H⟩ := H
   obtain rfl := smI H
   have p7 : 0 ≤ ((ji4) : Int) := of_decide_eq_true rfA
   have q7 : (ji4) < (a0.size : Int) := of_decide_eq_true rfA
   have hx7 := bt_at a0 (ji4)
   replace p7 := eq_true p7
   replace q7 := eq_true q7
   go_enter Tryz.func98, Tryz.ntmps98
   go_wp2_with (first | ((with_reducible refine gate_callee (f := 111) rfl ?_); refine goesL_ (some 16) rfl rfl Tryz.func111 rfK rfl #[.int .u8 (bt a0 (ji4))] rfl (by (try simp only [List.map_toArray, List.map_cons, List.map_nil]); first | done | (simp only [ap]; rfl) | rfl | (simp only [List.length_drop, List.length_take]; rfl)) ?_; (with_reducible refine (graftwoodref02_digit.calls (bt a0 (ji4)) ai _ A8.out).mono ?_); rintro e w' ⟨rfl, ⟨nd, rfl⟩⟩; refine ⟨_, rfl, ?_⟩))
   go_ret
   exact ⟨by first | rfl | (simp; done) | (simp only [← ap] <;> (first | rfl | simp)) | (simp [*]; done), rfD⟩
  ·exact absurd H (by simp)

/-! ### graftwoodref02_Cmp: function 71 -/
def graftwoodref02_Cmp.l0 : Nat → ByteArray → ByteArray → Int → Option (Int)
 | 0, _, _, _ => none
 | k + 1, x0, x1, x5 => if x5 ≥ 0 then ((graftwoodref02_at.f x0 x5).bind fun ag => ((graftwoodref02_at.f x1 x5).bind fun af => (if ag < af then (some (-1)) else ((graftwoodref02_at.f x0 x5).bind fun ae => ((graftwoodref02_at.f x1 x5).bind fun ad => (if ae > ad then (some 1) else (graftwoodref02_Cmp.l0 k x0 x1 (wrap64 (x5 - 1))))))))) else (some 0)
def graftwoodref02_Cmp.f (k : Nat) (a0 : ByteArray) (a1 : ByteArray) : Option (Int) := graftwoodref02_Cmp.l0 k a0 a1 (wrap64 ((mx (a0.size : Int) (a1.size : Int)) - 1))
theorem graftwoodref02_Cmp.mono_l : ∀ k, (∀ y0 y1 y2, LeO (graftwoodref02_Cmp.l0 k y0 y1 y2) (graftwoodref02_Cmp.l0 (k + 1) y0 y1 y2))
 | 0 => fun _ _ _ r h => by simp [graftwoodref02_Cmp.l0] at h
 | k + 1 => by
  have ih0 := graftwoodref02_Cmp.mono_l k
  ·intro y0 y1 y2
   unfold graftwoodref02_Cmp.l0
   repeat' first | (with_reducible first | apply ih0 | apply LeO.refl | apply LeO.none | apply LeO.ite | refine LeO.bind ?_ (fun _ => ?_)) | apply ih0 | exact LeO.none _ | refine LeO.ite ?_ ?_ | refine LeO.bind ?_ (fun _ => ?_)
theorem graftwoodref02_Cmp.mono : ∀ a0 a1 k, LeO (graftwoodref02_Cmp.f k a0 a1) (graftwoodref02_Cmp.f (k + 1) a0 a1) := by
 intro a0 a1 k
 have ih0 := graftwoodref02_Cmp.mono_l k
 unfold graftwoodref02_Cmp.f
 repeat' first | (with_reducible first | apply ih0 | apply LeO.refl | apply LeO.none | apply LeO.ite | refine LeO.bind ?_ (fun _ => ?_)) | apply ih0 | exact LeO.none _ | refine LeO.ite ?_ ?_ | refine LeO.bind ?_ (fun _ => ?_)
theorem graftwoodref02_Cmp.calls (k : Nat) (a0 : ByteArray) (a1 : ByteArray) (r : Int) (w : World) (h : graftwoodref02_Cmp.f k a0 a1 = some r) :
  Calls Tryz.prog 71 #[.string a0, .string a1] w fun e w' => e = .returned (.int .i64 r) ∧ Below w.heap.size w w' := by
 have HB := am (Below.refl w.heap.size w)
 unfold graftwoodref02_Cmp.f at h; have H := h; clear h
 obtain ⟨ji3, aj⟩ : ∃ j_ : Int, (mx (a0.size : Int) (a1.size : Int)) = j_ := ⟨_, rfl⟩
 replace H : (graftwoodref02_Cmp.l0 k a0 a1 (wrap64 ((ji3) - 1))) = some r := by first | (rw [aj] at H; exact H) | (simp only [aj] at H ⊢; exact H)
 (try (have aJ : 0 ≤ ji3 := by (rw [← aj]; unfold mx; (repeat' split) <;> omega)))
 (try (have aK : 0 ≤ ji3 := by omega))
 have aq : (if (a0.size : Int) < (a1.size : Int) then (a1.size : Int) else (a0.size : Int)) = ji3 := aj
 (try (have ar := aq; simp only [Int.ofNat_lt] at ar))
 have H' := Aside0.mk H
 clear H
 go_enter Tryz.func71, Tryz.ntmps71
 go_wp2
 go_loopg [5] k (fun kq v5 w' => ∃ (aa : Int), v5 = .int .i64 aa ∧ Aside0 (graftwoodref02_Cmp.l0 kq a0 a1 aa = some r) ∧ Aside0 (kq ≤ k) ∧ Aside0 (Below w.heap.size w w'))
 case atStart => exact ⟨(wrap64 ((ji3) - 1)), (by first | rfl | (simp; done) | (simp only [← aj] <;> (first | rfl | simp)) | (simp [*]; done)), H', ⟨Nat.le_refl _⟩, ⟨eTx HB.out⟩⟩
 case round =>
  clear H'
  obtain ⟨aa, rfl, HA, HK1, HB⟩ := hrel
  cases gk with
  | zero => exact absurd HA.out (by simp [graftwoodref02_Cmp.l0])
  | succ k1 =>
   have H := HA.out
   clear HA
   simp only [graftwoodref02_Cmp.l0] at H
   replace H := ifP H; rcases H with ⟨c4, H⟩ | ⟨c4, H⟩
   ·have ak : decide (0 ≤ aa) = true := decide_eq_true c4
    clear c4
    replace H := bnd H; obtain ⟨ag, A5, H⟩ := H
    replace H := bnd H; obtain ⟨af, A6, H⟩ := H
    replace H := ifP H; rcases H with ⟨c7, H⟩ | ⟨c7, H⟩
    ·have au := decide_eq_true c7
     clear c7
     obtain rfl := smI H
     go_wp2_with (first | ((with_reducible refine gtC 98 ?_); refine xCz 18 Tryz.func98 (graftwoodref02_at.calls a0 aa ag _ A5.out) fun nd => ?_) | ((with_reducible refine gtC 98 ?_); refine xCz 21 Tryz.func98 (graftwoodref02_at.calls a1 aa af _ A6.out) fun nd => ?_))
     go_ret
     exact ⟨by first | rfl | (simp [errW_none, errW_some] <;> rfl) | (simp only [← aj]; first | rfl | (simp [errW_none, errW_some] <;> rfl)) | (simp [*, errW_none, errW_some] <;> rfl), eTx HB.out⟩
    ·have au := decide_eq_false c7
     clear c7
     replace H := bnd H; obtain ⟨ae, A8, H⟩ := H
     replace H := bnd H; obtain ⟨ad, A9, H⟩ := H
     replace H := ifP H; rcases H with ⟨c10, H⟩ | ⟨c10, H⟩
     ·have av : decide (ad < ae) = true := decide_eq_true c10
      clear c10
      obtain rfl := smI H
      go_wp2_with (first | ((with_reducible refine gtC 98 ?_); refine xCz 18 Tryz.func98 (graftwoodref02_at.calls a0 aa ag _ A5.out) fun nd => ?_) | ((with_reducible refine gtC 98 ?_); refine xCz 21 Tryz.func98 (graftwoodref02_at.calls a1 aa af _ A6.out) fun nd => ?_) | ((with_reducible refine gtC 98 ?_); refine xCz 25 Tryz.func98 (graftwoodref02_at.calls a0 aa ae _ A8.out) fun nd => ?_) | ((with_reducible refine gtC 98 ?_); refine xCz 28 Tryz.func98 (graftwoodref02_at.calls a1 aa ad _ A9.out) fun nd => ?_))
      go_ret
      exact ⟨by first | rfl | (simp [errW_none, errW_some] <;> rfl) | (simp only [← aj]; first | rfl | (simp [errW_none, errW_some] <;> rfl)) | (simp [*, errW_none, errW_some] <;> rfl), eTx HB.out⟩
     ·have av : decide (ad < ae) = false := decide_eq_false c10
      clear c10
      have H' := Aside0.mk H
      clear H
      go_wp2_with (first | ((with_reducible refine gtC 98 ?_); refine xCz 18 Tryz.func98 (graftwoodref02_at.calls a0 aa ag _ A5.out) fun nd => ?_) | ((with_reducible refine gtC 98 ?_); refine xCz 21 Tryz.func98 (graftwoodref02_at.calls a1 aa af _ A6.out) fun nd => ?_) | ((with_reducible refine gtC 98 ?_); refine xCz 25 Tryz.func98 (graftwoodref02_at.calls a0 aa ae _ A8.out) fun nd => ?_) | ((with_reducible refine gtC 98 ?_); refine xCz 28 Tryz.func98 (graftwoodref02_at.calls a1 aa ad _ A9.out) fun nd => ?_))
      go_roundg k1
      case measure => have := HK1.out; omega
      case rel => exact ⟨(wrap64 (aa - 1)), rfG, H', ⟨by have := HK1.out; omega⟩, ⟨eTx HB.out⟩⟩
   ·have ak : decide (0 ≤ aa) = false := decide_eq_false c4
    clear c4
    obtain rfl := smI H
    go_wp2
    go_ret
    exact ⟨by first | rfl | (simp [errW_none, errW_some] <;> rfl) | (simp only [← aj]; first | rfl | (simp [errW_none, errW_some] <;> rfl)) | (simp [*, errW_none, errW_some] <;> rfl), eTx HB.out⟩

/-! ### graftwoodref01_Cmp: function 47 -/
mutual
def graftwoodref01_Cmp.l0 : Nat → ByteArray → ByteArray → Int → Option (Int)
 | 0, _, _, _ => none
 | k + 1, x0, x1, x5 => if x5 < (x0.size : Int) then (graftwoodref01_Cmp.j1 k x0 x1 x5 (decide (x5 < (x1.size : Int)))) else (graftwoodref01_Cmp.j1 k x0 x1 x5 false)
def graftwoodref01_Cmp.j1 : Nat → ByteArray → ByteArray → Int → Bool → Option (Int)
 | 0, _, _, _, _ => none
 | k + 1, x0, x1, x5, x15 => if x15 = true then (if 0 ≤ x5 then (if x5 < (x0.size : Int) then (if x5 < (x1.size : Int) then (if (bt x0 x5) < (bt x1 x5) then (some (-1)) else (if (bt x0 x5) > (bt x1 x5) then (some 1) else (graftwoodref01_Cmp.l0 k x0 x1 (wrap64 (x5 + 1))))) else (none)) else (none)) else (none)) else (if (x0.size : Int) < (x1.size : Int) then (some (-1)) else (if (x0.size : Int) > (x1.size : Int) then (some 1) else (some 0)))
end
def graftwoodref01_Cmp.f (k : Nat) (a0 : ByteArray) (a1 : ByteArray) : Option (Int) := graftwoodref01_Cmp.l0 k a0 a1 0
theorem graftwoodref01_Cmp.mono_l : ∀ k, (∀ y0 y1 y2, LeO (graftwoodref01_Cmp.l0 k y0 y1 y2) (graftwoodref01_Cmp.l0 (k + 1) y0 y1 y2)) ∧ (∀ y0 y1 y2 y3, LeO (graftwoodref01_Cmp.j1 k y0 y1 y2 y3) (graftwoodref01_Cmp.j1 (k + 1) y0 y1 y2 y3))
 | 0 => ⟨fun _ _ _ r h => by simp [graftwoodref01_Cmp.l0] at h, fun _ _ _ _ r h => by simp [graftwoodref01_Cmp.j1] at h⟩
 | k + 1 => by
  obtain ⟨ih0, ih1⟩ := graftwoodref01_Cmp.mono_l k
  refine ⟨?_, ?_⟩
  ·intro y0 y1 y2
   unfold graftwoodref01_Cmp.l0
   repeat' first | (with_reducible first | apply ih0 | apply ih1 | apply LeO.refl | apply LeO.none | apply LeO.ite | refine LeO.bind ?_ (fun _ => ?_)) | apply ih0 | apply ih1 | exact LeO.none _ | refine LeO.ite ?_ ?_ | refine LeO.bind ?_ (fun _ => ?_)
  ·intro y0 y1 y2 y3
   unfold graftwoodref01_Cmp.j1
   repeat' first | (with_reducible first | apply ih0 | apply ih1 | apply LeO.refl | apply LeO.none | apply LeO.ite | refine LeO.bind ?_ (fun _ => ?_)) | apply ih0 | apply ih1 | exact LeO.none _ | refine LeO.ite ?_ ?_ | refine LeO.bind ?_ (fun _ => ?_)
theorem graftwoodref01_Cmp.mono : ∀ a0 a1 k, LeO (graftwoodref01_Cmp.f k a0 a1) (graftwoodref01_Cmp.f (k + 1) a0 a1) := by
 intro a0 a1 k
 obtain ⟨ih0, ih1⟩ := graftwoodref01_Cmp.mono_l k
 unfold graftwoodref01_Cmp.f
 repeat' first | (with_reducible first | apply ih0 | apply ih1 | apply LeO.refl | apply LeO.none | apply LeO.ite | refine LeO.bind ?_ (fun _ => ?_)) | apply ih0 | apply ih1 | exact LeO.none _ | refine LeO.ite ?_ ?_ | refine LeO.bind ?_ (fun _ => ?_)
theorem graftwoodref01_Cmp.calls (k : Nat) (a0 : ByteArray) (a1 : ByteArray) (r : Int) (w : World) (h : graftwoodref01_Cmp.f k a0 a1 = some r) :
  Calls Tryz.prog 47 #[.string a0, .string a1] w fun e w' => e = .returned (.int .i64 r) ∧ Drawn0 w w' := by
 unfold graftwoodref01_Cmp.f at h; have H := h; clear h
 have H' := Aside0.mk H
 clear H
 go_enter Tryz.func47, Tryz.ntmps47
 go_wp2
 repeat (go_quiet (fail); try go_wp2)
 go_loopg [5] k (fun kq v5 w' => ∃ (aa : Int), v5 = .int .i64 aa ∧ Aside0 (graftwoodref01_Cmp.l0 kq a0 a1 aa = some r) ∧ Aside0 (kq ≤ k) ∧ Drawn0 w w')
 case atStart => exact ⟨(0), rfG, H', ⟨Nat.le_refl _⟩, rfD⟩
 case round =>
  clear H'
  obtain ⟨aa, rfl, HA, HK1, ⟨m1, rfl⟩⟩ := hrel
  cases gk with
  | zero => exact absurd HA.out (by simp [graftwoodref01_Cmp.l0])
  | succ k1 =>
   have H := HA.out
   clear HA
   simp only [graftwoodref01_Cmp.l0] at H
   have HC3 := Aside0.mk H
   clear H
   go_upto_region 2 with (fail)
   repeat (go_quiet (fail); go_upto_region 2 with (fail))
   go_cut [15] (fun v15 wc => ∃ (kq : Nat) (al : Bool), v15 = .bool al ∧ Aside0 (graftwoodref01_Cmp.j1 kq a0 a1 aa al = some r) ∧ Aside0 (kq ≤ k1) ∧ Drawn0 w wc)
   case first =>
    have H := HC3.out
    clear HC3
    replace H := ifP H; rcases H with ⟨c4, H⟩ | ⟨c4, H⟩
    ·have ak := decide_eq_true c4
     clear c4
     (first | rw [ak] | (simp only [i64_w, i32_w]; rw [ak]) | skip)
     have H' := Aside0.mk H
     clear H
     go_wp2
     repeat (go_quiet (fail); try go_wp2)
     go_meet
     case rel => exact ⟨_, (decide (aa < (a1.size : Int))), rfG, H', ⟨by have := HK1.out; first | omega | exact Nat.le_refl _⟩, rfD⟩
    ·have ak := decide_eq_false c4
     clear c4
     (first | rw [ak] | (simp only [i64_w, i32_w]; rw [ak]) | skip)
     have H' := Aside0.mk H
     clear H
     go_wp2
     repeat (go_quiet (fail); try go_wp2)
     go_meet
     case rel => exact ⟨_, (false), rfG, H', ⟨by have := HK1.out; first | omega | exact Nat.le_refl _⟩, rfD⟩
   case rest =>
    clear HC3
    obtain ⟨kq, al, rfl, HA, HJ2, ⟨mc2, rfl⟩⟩ := hcut
    cases kq with
    | zero => exact absurd HA.out (by simp [graftwoodref01_Cmp.j1])
    | succ kj2 =>
     have H := HA.out
     clear HA
     simp only [graftwoodref01_Cmp.j1] at H
     replace H := ifB H; rcases H with ⟨rfl, H⟩ | ⟨rfl, H⟩
     ·replace H := ifN H; obtain ⟨c6, H⟩ := H
      have aF := decide_eq_true c6
      clear c6
      replace H := ifN H; obtain ⟨c7, H⟩ := H
      have au := decide_eq_true c7
      clear c7
      replace H := ifN H; obtain ⟨c9, H⟩ := H
      have aM := decide_eq_true c9
      clear c9
      replace H := ifP H; rcases H with ⟨c11, H⟩ | ⟨c11, H⟩
      ·have aw := decide_eq_true c11
       clear c11
       obtain rfl := smI H
       have p8 : 0 ≤ (aa : Int) := of_decide_eq_true rfA
       have q8 : aa < (a0.size : Int) := of_decide_eq_true rfA
       have hx8 := bt_at a0 aa
       replace p8 := eq_true p8
       replace q8 := eq_true q8
       have p10 : 0 ≤ (aa : Int) := of_decide_eq_true rfA
       have q10 : aa < (a1.size : Int) := of_decide_eq_true rfA
       have ax := bt_at a1 aa
       replace p10 := eq_true p10
       replace q10 := eq_true q10
       go_wp2
       repeat (go_quiet (fail); try go_wp2)
       go_ret
       exact ⟨rfG, rfD⟩
      ·have aw := decide_eq_false c11
       clear c11
       replace H := ifP H; rcases H with ⟨c14, H⟩ | ⟨c14, H⟩
       ·have ay : decide ((bt a1 aa) < (bt a0 aa)) = true := decide_eq_true c14
        clear c14
        obtain rfl := smI H
        have p8 : 0 ≤ (aa : Int) := of_decide_eq_true rfA
        have q8 : aa < (a0.size : Int) := of_decide_eq_true rfA
        have hx8 := bt_at a0 aa
        replace p8 := eq_true p8
        replace q8 := eq_true q8
        have p10 : 0 ≤ (aa : Int) := of_decide_eq_true rfA
        have q10 : aa < (a1.size : Int) := of_decide_eq_true rfA
        have ax := bt_at a1 aa
        replace p10 := eq_true p10
        replace q10 := eq_true q10
        have p12 : 0 ≤ (aa : Int) := of_decide_eq_true rfA
        have q12 : aa < (a0.size : Int) := of_decide_eq_true rfA
        have aG := bt_at a0 aa
        replace p12 := eq_true p12
        replace q12 := eq_true q12
        have p13 : 0 ≤ (aa : Int) := of_decide_eq_true rfA
        have q13 : aa < (a1.size : Int) := of_decide_eq_true rfA
        have aH := bt_at a1 aa
        replace p13 := eq_true p13
        replace q13 := eq_true q13
        go_wp2
        repeat (go_quiet (fail); try go_wp2)
        go_ret
        exact ⟨rfG, rfD⟩
       ·have ay : decide ((bt a1 aa) < (bt a0 aa)) = false := decide_eq_false c14
        clear c14
        have H' := Aside0.mk H
        clear H
        have p8 : 0 ≤ (aa : Int) := of_decide_eq_true rfA
        have q8 : aa < (a0.size : Int) := of_decide_eq_true rfA
        have hx8 := bt_at a0 aa
        replace p8 := eq_true p8
        replace q8 := eq_true q8
        have p10 : 0 ≤ (aa : Int) := of_decide_eq_true rfA
        have q10 : aa < (a1.size : Int) := of_decide_eq_true rfA
        have ax := bt_at a1 aa
        replace p10 := eq_true p10
        replace q10 := eq_true q10
        have p12 : 0 ≤ (aa : Int) := of_decide_eq_true rfA
        have q12 : aa < (a0.size : Int) := of_decide_eq_true rfA
        have aG := bt_at a0 aa
        replace p12 := eq_true p12
        replace q12 := eq_true q12
        have p13 : 0 ≤ (aa : Int) := of_decide_eq_true rfA
        have q13 : aa < (a1.size : Int) := of_decide_eq_true rfA
        have aH := bt_at a1 aa
        replace p13 := eq_true p13
        replace q13 := eq_true q13
        go_wp2
        repeat (go_quiet (fail); try go_wp2)
        go_roundg kj2
        case measure => have := HK1.out; have := HJ2.out; omega
        case rel => exact ⟨(wrap64 (aa + 1)), rfG, H', ⟨by have := HK1.out; have := HJ2.out; omega⟩, rfD⟩
     ·replace H := ifP H; rcases H with ⟨c15, H⟩ | ⟨c15, H⟩
      ·have az := decide_eq_true c15
       have aA : decide (a0.size < a1.size) = true := decide_eq_true (Int.ofNat_lt.mp c15)
       clear c15
       obtain rfl := smI H
       go_wp2
       repeat (go_quiet (fail); try go_wp2)
       go_ret
       exact ⟨rfG, rfD⟩
      ·have az := decide_eq_false c15
       have aA : decide (a0.size < a1.size) = false := decide_eq_false (fun h => c15 (Int.ofNat_lt.mpr h))
       clear c15
       replace H := ifP H; rcases H with ⟨c16, H⟩ | ⟨c16, H⟩
       ·have aB : decide ((a1.size : Int) < (a0.size : Int)) = true := decide_eq_true c16
        have aC : decide (a1.size < a0.size) = true := decide_eq_true (Int.ofNat_lt.mp c16)
        clear c16
        obtain rfl := smI H
        go_wp2
        repeat (go_quiet (fail); try go_wp2)
        go_ret
        exact ⟨rfG, rfD⟩
       ·have aB : decide ((a1.size : Int) < (a0.size : Int)) = false := decide_eq_false c16
        have aC : decide (a1.size < a0.size) = false := decide_eq_false (fun h => c16 (Int.ofNat_lt.mpr h))
        clear c16
        obtain rfl := smI H
        go_wp2
        repeat (go_quiet (fail); try go_wp2)
        go_ret
        exact ⟨rfG, rfD⟩

/-! ### graftwoodref03_words: function 72 -/
def graftwoodref03_words.j0 : Nat → ByteArray → ByteArray → Bool → Bool → Bool → Option (Int)
 | 0, _, _, _, _, _ => none
 | k + 1, x0, x1, x5, x6, x14 => if x14 = true then ((graftwoodref02_Cmp.f k x0 x1).bind fun ao => (some ao)) else (if x5 = true then (some (-1)) else (if x6 = true then (some 1) else ((graftwoodref01_Cmp.f k x0 x1).bind fun ah => (some ah))))
def graftwoodref03_words.f (k : Nat) (a0 : ByteArray) (a1 : ByteArray) : Option (Int) := (graftwoodref02_May.f k a0).bind fun ac => ((graftwoodref02_May.f k a1).bind fun ab => (if ac = true then (graftwoodref03_words.j0 k a0 a1 ac ab ab) else (graftwoodref03_words.j0 k a0 a1 ac ab false)))
theorem graftwoodref03_words.mono_l : ∀ k, (∀ y0 y1 y2 y3 y4, LeO (graftwoodref03_words.j0 k y0 y1 y2 y3 y4) (graftwoodref03_words.j0 (k + 1) y0 y1 y2 y3 y4))
 | 0 => fun _ _ _ _ _ r h => by simp [graftwoodref03_words.j0] at h
 | k + 1 => by
  have ih0 := graftwoodref03_words.mono_l k
  ·intro y0 y1 y2 y3 y4
   unfold graftwoodref03_words.j0
   repeat' first | (with_reducible first | apply ih0 | apply graftwoodref01_Cmp.mono | apply graftwoodref02_Cmp.mono | apply graftwoodref02_May.mono | apply LeO.refl | apply LeO.none | apply LeO.ite | refine LeO.bind ?_ (fun _ => ?_)) | apply ih0 | apply graftwoodref01_Cmp.mono | apply graftwoodref02_Cmp.mono | apply graftwoodref02_May.mono | exact LeO.none _ | refine LeO.ite ?_ ?_ | refine LeO.bind ?_ (fun _ => ?_)
theorem graftwoodref03_words.mono : ∀ a0 a1 k, LeO (graftwoodref03_words.f k a0 a1) (graftwoodref03_words.f (k + 1) a0 a1) := by
 intro a0 a1 k
 have ih0 := graftwoodref03_words.mono_l k
 unfold graftwoodref03_words.f
 repeat' first | (with_reducible first | apply ih0 | apply graftwoodref01_Cmp.mono | apply graftwoodref02_Cmp.mono | apply graftwoodref02_May.mono | apply LeO.refl | apply LeO.none | apply LeO.ite | refine LeO.bind ?_ (fun _ => ?_)) | apply ih0 | apply graftwoodref01_Cmp.mono | apply graftwoodref02_Cmp.mono | apply graftwoodref02_May.mono | exact LeO.none _ | refine LeO.ite ?_ ?_ | refine LeO.bind ?_ (fun _ => ?_)
theorem graftwoodref03_words.calls (k : Nat) (a0 : ByteArray) (a1 : ByteArray) (r : Int) (w : World) (h : graftwoodref03_words.f k a0 a1 = some r) :
  Calls Tryz.prog 72 #[.string a0, .string a1] w fun e w' => e = .returned (.int .i64 r) ∧ Below w.heap.size w w' := by
 have HB := am (Below.refl w.heap.size w)
 unfold graftwoodref03_words.f at h; have H := h; clear h
 replace H := bnd H; obtain ⟨ac, A3, H⟩ := H
 replace H := bnd H; obtain ⟨ab, A4, H⟩ := H
 have HC5 := Aside0.mk H
 clear H
 go_enter Tryz.func72, Tryz.ntmps72
 go_upto_region 2 with (first | ((with_reducible refine gtC 96 ?_); refine xCz 8 Tryz.func96 (graftwoodref02_May.calls k a0 ac _ A3.out) fun nd => ?_) | ((with_reducible refine gtC 96 ?_); refine xCz 10 Tryz.func96 (graftwoodref02_May.calls k a1 ab _ A4.out) fun nd => ?_))
 (try simp only [Act.put, List.setIfInBounds_toArray, List.set_cons_zero, List.set_cons_succ])
 go_cut [14] (fun v14 wc => ∃ (kq : Nat) (an : Bool), v14 = .bool an ∧ Aside0 (graftwoodref03_words.j0 kq a0 a1 ac ab an = some r) ∧ Aside0 (kq ≤ k) ∧ Aside0 (Below w.heap.size w wc))
 case first =>
  have H := HC5.out
  clear HC5
  replace H := ifB H; rcases H with ⟨rfl, H⟩ | ⟨rfl, H⟩
  ·have H' := Aside0.mk H
   clear H
   go_wp2
   go_meet
   case rel => exact ⟨_, (ab), rfG, H', ⟨rfO⟩, ⟨eTx HB.out⟩⟩
  ·have H' := Aside0.mk H
   clear H
   go_wp2
   go_meet
   case rel => exact ⟨_, (false), rfG, H', ⟨rfO⟩, ⟨eTx HB.out⟩⟩
 case rest =>
  clear HC5
  obtain ⟨kq, an, rfl, HA, HJ4, HB⟩ := hcut
  cases kq with
  | zero => exact absurd HA.out (by simp [graftwoodref03_words.j0])
  | succ kj4 =>
   have H := HA.out
   clear HA
   simp only [graftwoodref03_words.j0] at H
   replace H := ifB H; rcases H with ⟨rfl, H⟩ | ⟨rfl, H⟩
   ·replace H := bnd H; obtain ⟨ao, A8, H⟩ := H
    obtain rfl := smI H
    go_wp2_with (first | ((with_reducible refine gtC 71 ?_); refine xCb 17 Tryz.func71 (graftwoodref02_Cmp.calls kj4 a0 a1 ao _ A8.out) fun w9 hb => ?_; replace HB := am (sTx HB.out hb)))
    go_ret
    exact ⟨rfF, eTx HB.out⟩
   ·replace H := ifB H; rcases H with ⟨rfl, H⟩ | ⟨rfl, H⟩
    ·obtain rfl := smI H
     go_wp2
     go_ret
     exact ⟨rfF, eTx HB.out⟩
    ·replace H := ifB H; rcases H with ⟨rfl, H⟩ | ⟨rfl, H⟩
     ·obtain rfl := smI H
      go_wp2
      go_ret
      exact ⟨rfF, eTx HB.out⟩
     ·replace H := bnd H; obtain ⟨ah, A12, H⟩ := H
      obtain rfl := smI H
      go_wp2_with (first | ((with_reducible refine gtC 47 ?_); refine xCz 22 Tryz.func47 (graftwoodref01_Cmp.calls kj4 a0 a1 ah _ A12.out) fun nd => ?_))
      go_ret
      exact ⟨rfF, eTx HB.out⟩

end Go.Proofs.YtknmfmedklfepaaGreatDoor.P
