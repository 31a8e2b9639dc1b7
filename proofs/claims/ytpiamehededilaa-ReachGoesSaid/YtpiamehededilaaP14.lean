-- Written by this project's own program (wip/tools/hp.py), driving the kit's print; hand texts among it. Not trusted: Lean checks it.
-- half the indentation
import Derived.Test.YtpiamehededilaaThen
import Derived.Test.YtpiamehededilaaP0
import Derived.Test.YtpiamehededilaaP10
namespace Go.Proofs.Ytpiamehededilaa.P
open Go.RowKit Go.Proofs.YtpiamehededilaaW.PrintWords Go.Proofs.YtpiamehededilaaW.PrintLast Go.Proofs.YtpiamehededilaaW.PrintMore
attribute [local go_sem] max2_int min2_int max_two min_two max_three min_three max_four min_four   -- for this text's walks alone
set_option linter.unusedVariables false
set_option linter.unusedSimpArgs false

/-! ### graftwoodref11_Many: function 15 -/
def graftwoodref11_Many.l0 : Nat → List (S36) → Int → Int → Int → Int → Option (Int)
 | 0, _, _, _, _, _ => none
 | k + 1, x0, x1, x2, x7, x8 => if x8 < (x0.length : Int) then (if 0 ≤ x8 then (if ((rd_T36 x0 x8).f0) = x1 then (if ((rd_T36 x0 x8).f1) = x2 then (graftwoodref11_Many.l0 k x0 x1 x2 (wrap64 (x7 + ((rd_T36 x0 x8).f2))) (wrap64 (x8 + 1))) else (graftwoodref11_Many.l0 k x0 x1 x2 x7 (wrap64 (x8 + 1)))) else (graftwoodref11_Many.l0 k x0 x1 x2 x7 (wrap64 (x8 + 1)))) else (none)) else (some x7)
def graftwoodref11_Many.f (k : Nat) (l0 : List (S36)) (a1 : Int) (a2 : Int) : Option (Int) := graftwoodref11_Many.l0 k l0 a1 a2 0 0
theorem graftwoodref11_Many.mono_l : ∀ k, (∀ y0 y1 y2 y3 y4, LeO (graftwoodref11_Many.l0 k y0 y1 y2 y3 y4) (graftwoodref11_Many.l0 (k + 1) y0 y1 y2 y3 y4))
 | 0 => fun _ _ _ _ _ r h => by simp [graftwoodref11_Many.l0] at h
 | k + 1 => by
  have ih0 := graftwoodref11_Many.mono_l k
  ·intro y0 y1 y2 y3 y4
   unfold graftwoodref11_Many.l0
   repeat' first
   | (with_reducible exact ih0 _ _ _ _ _)
   | (with_reducible exact LeO.refl _)
   | (with_reducible exact LeO.none _)
   | (with_reducible refine LeO.ite ?_ ?_)
   | (with_reducible refine LeO.bind ?_ (fun _ => ?_))
   | exact ih0 _ _ _ _ _
   | exact LeO.none _
   | refine LeO.ite ?_ ?_
   | refine LeO.bind ?_ (fun _ => ?_)
theorem graftwoodref11_Many.mono : ∀ a0 a1 a2 k, LeO (graftwoodref11_Many.f k a0 a1 a2) (graftwoodref11_Many.f (k + 1) a0 a1 a2) := by
 intro a0 a1 a2 k
 have ih0 := graftwoodref11_Many.mono_l k
 unfold graftwoodref11_Many.f
 repeat' first
   | (with_reducible exact ih0 _ _ _ _ _)
   | (with_reducible exact LeO.refl _)
   | (with_reducible exact LeO.none _)
   | (with_reducible refine LeO.ite ?_ ?_)
   | (with_reducible refine LeO.bind ?_ (fun _ => ?_))
   | exact ih0 _ _ _ _ _
   | exact LeO.none _
   | refine LeO.ite ?_ ?_
   | refine LeO.bind ?_ (fun _ => ?_)
set_option maxHeartbeats 8000000 in
set_option maxRecDepth 100000 in
theorem graftwoodref11_Many.calls (k : Nat) (A0 : Option Addr) (c0 : Nat) (l0 : List (S36)) (a1 : Int) (a2 : Int) (r : Int) (w : World) (hr0 : Kd.C k36 w A0 l0.length l0) (hc0 : l0.length ≤ c0) (h : graftwoodref11_Many.f k l0 a1 a2 = some r) :
  Calls Try.prog 15 #[.slice A0 l0.length c0, .int .i64 a1, .int .i64 a2] w fun e w' => e = .returned (.int .i64 r) ∧ Drawn0 w w' := by
 have HR0 := Aside0.mk hr0
 have HC0 := Aside0.mk hc0
 clear hr0 hc0
 have H : (graftwoodref11_Many.l0 k l0 a1 a2 0 0) = some r := h
 clear h
 have H' := Aside0.mk H
 clear H
 go_enter Try.func15, Try.ntmps15
 go_wp2
 go_loopg [7, 8] k (fun kq v7 v8 w' => ∃ (a8 : Int) (af : Int), v7 = .int .i64 a8 ∧ v8 = .int .i64 af ∧ Aside0 (graftwoodref11_Many.l0 kq l0 a1 a2 a8 af = some r) ∧ Aside0 (kq ≤ k) ∧ Drawn0 w w')
 case atStart => exact ⟨(0), (0), (by first | rfl | (simp; done) | (simp [*]; done)), (by first | rfl | (simp; done) | (simp [*]; done)), H', ⟨Nat.le_refl _⟩, by repeat (first | exact Drawn0.refl _ | apply Drawn0.step)⟩
 case round =>
  clear H'
  try clear c1
  try clear p2
  obtain ⟨a8, af, rfl, rfl, HA, HK1, ⟨m1, rfl⟩⟩ := hrel
  cases gk with
  | zero => exact absurd HA.out (by simp [graftwoodref11_Many.l0])
  | succ k1 =>
   have H := HA.out
   clear HA
   simp only [graftwoodref11_Many.l0] at H
   by_cases c4 : af < (l0.length : Int)
   ·rw [if_pos c4] at H
    have a9 : decide (af < (l0.length : Int)) = true := decide_eq_true c4
    clear c4
    by_cases c5 : 0 ≤ af
    ·rw [if_pos c5] at H
     have bg : decide (0 ≤ af) = true := decide_eq_true c5
     clear c5
     by_cases c6 : ((rd_T36 l0 af).f0) = a1
     ·rw [if_pos c6] at H
      have bv : (((rd_T36 l0 af).f0) == a1) = true := beq_iff_eq.mpr c6
      have bw : (((rd_T36 l0 af).f0) != a1) = false := bne_eq_false_iff_eq.mpr c6
      clear c6
      by_cases c7 : ((rd_T36 l0 af).f1) = a2
      ·rw [if_pos c7] at H
       have bx : (((rd_T36 l0 af).f1) == a2) = true := beq_iff_eq.mpr c7
       have bz : (((rd_T36 l0 af).f1) != a2) = false := bne_eq_false_iff_eq.mpr c7
       clear c7
       have H' := Aside0.mk H
       clear H
       have p251 : 0 ≤ (af : Int) := of_decide_eq_true (by first | (with_reducible assumption) | assumption)
       have q251 : af < (l0.length : Int) := of_decide_eq_true (by first | (with_reducible assumption) | assumption)
       obtain ⟨ad251, e251, aJ, aK, aM⟩ := at_T36 HR0.out af p251 q251
       cases e251
       replace p251 := eq_true p251
       replace q251 := eq_true q251
       have p252 : 0 ≤ (af : Int) := of_decide_eq_true (by first | (with_reducible assumption) | assumption)
       have q252 : af < (l0.length : Int) := of_decide_eq_true (by first | (with_reducible assumption) | assumption)
       obtain ⟨ad252, e252, a_, ba, bb⟩ := at_T36 HR0.out af p252 q252
       obtain rfl : ad251 = ad252 := (by injection e252)
       replace p252 := eq_true p252
       replace q252 := eq_true q252
       have p253 : 0 ≤ (af : Int) := of_decide_eq_true (by first | (with_reducible assumption) | assumption)
       have q253 : af < (l0.length : Int) := of_decide_eq_true (by first | (with_reducible assumption) | assumption)
       obtain ⟨ad253, e253, bs, bt, bu⟩ := at_T36 HR0.out af p253 q253
       obtain rfl : ad251 = ad253 := (by injection e253)
       replace p253 := eq_true p253
       replace q253 := eq_true q253
       go_wp2
       go_roundg k1
       case measure => have := HK1.out; omega
       case rel => exact ⟨(wrap64 (a8 + ((rd_T36 l0 af).f2))), (wrap64 (af + 1)), (by first | rfl | (simp; done) | (simp [*]; done)), (by first | rfl | (simp; done) | (simp [*]; done)), H', ⟨by have := HK1.out; omega⟩, by repeat (first | exact Drawn0.refl _ | apply Drawn0.step)⟩
      ·rw [if_neg c7] at H
       have bx : (((rd_T36 l0 af).f1) == a2) = false := beq_eq_false_iff_ne.mpr c7
       have bz : (((rd_T36 l0 af).f1) != a2) = true := bne_iff_ne.mpr c7
       have H' := Aside0.mk H
       clear H
       have p251 : 0 ≤ (af : Int) := of_decide_eq_true (by first | (with_reducible assumption) | assumption)
       have q251 : af < (l0.length : Int) := of_decide_eq_true (by first | (with_reducible assumption) | assumption)
       obtain ⟨ad251, e251, aJ, aK, aM⟩ := at_T36 HR0.out af p251 q251
       cases e251
       replace p251 := eq_true p251
       replace q251 := eq_true q251
       have p252 : 0 ≤ (af : Int) := of_decide_eq_true (by first | (with_reducible assumption) | assumption)
       have q252 : af < (l0.length : Int) := of_decide_eq_true (by first | (with_reducible assumption) | assumption)
       obtain ⟨ad252, e252, a_, ba, bb⟩ := at_T36 HR0.out af p252 q252
       obtain rfl : ad251 = ad252 := (by injection e252)
       replace p252 := eq_true p252
       replace q252 := eq_true q252
       go_wp2
       go_roundg k1
       case measure => have := HK1.out; omega
       case rel => exact ⟨(a8), (wrap64 (af + 1)), (by first | rfl | (simp; done) | (simp [*]; done)), (by first | rfl | (simp; done) | (simp [*]; done)), H', ⟨by have := HK1.out; omega⟩, by repeat (first | exact Drawn0.refl _ | apply Drawn0.step)⟩
     ·rw [if_neg c6] at H
      have bv : (((rd_T36 l0 af).f0) == a1) = false := beq_eq_false_iff_ne.mpr c6
      have bw : (((rd_T36 l0 af).f0) != a1) = true := bne_iff_ne.mpr c6
      have H' := Aside0.mk H
      clear H
      have p251 : 0 ≤ (af : Int) := of_decide_eq_true (by first | (with_reducible assumption) | assumption)
      have q251 : af < (l0.length : Int) := of_decide_eq_true (by first | (with_reducible assumption) | assumption)
      obtain ⟨ad251, e251, aJ, aK, aM⟩ := at_T36 HR0.out af p251 q251
      cases e251
      replace p251 := eq_true p251
      replace q251 := eq_true q251
      go_wp2
      go_roundg k1
      case measure => have := HK1.out; omega
      case rel => exact ⟨(a8), (wrap64 (af + 1)), (by first | rfl | (simp; done) | (simp [*]; done)), (by first | rfl | (simp; done) | (simp [*]; done)), H', ⟨by have := HK1.out; omega⟩, by repeat (first | exact Drawn0.refl _ | apply Drawn0.step)⟩
    ·rw [if_neg c5] at H
     exact absurd H (by simp)
   ·rw [if_neg c4] at H
    have a9 : decide (af < (l0.length : Int)) = false := decide_eq_false c4
    clear c4
    obtain rfl := Option.some.inj H
    go_wp2
    go_ret
    exact ⟨by first | rfl | (simp; done) | (simp [*]; done), by repeat (first | exact Drawn0.refl _ | apply Drawn0.step)⟩

/-! ### graftwoodref11_With: function 16 -/
mutual
def graftwoodref11_With.l0 : Nat → List (S36) → List (S36) → Int → Int → Int → Int → Option ((List (S36)))
 | 0, _, _, _, _, _, _ => none
 | k + 1, x0, x5, x6, ak, al, ag => if x6 < (x0.length : Int) then (if 0 ≤ x6 then ((graftwoodref11_Less.f ((rd_T36 x0 x6).f0) ((rd_T36 x0 x6).f1) ((rd_T36 x0 x6).f2) ak al ag).bind fun bc => (if bc = true then (if x5.length < 5864062014805 then (graftwoodref11_With.l0 k x0 (x5 ++ [(⟨(rd_T36 x0 x6).f0, (rd_T36 x0 x6).f1, (rd_T36 x0 x6).f2⟩ : S36)]) (wrap64 (x6 + 1)) ak al ag) else (none)) else (graftwoodref11_With.l0 k x0 x5 (wrap64 (x6 + 1)) ak al ag))) else (none)) else (if ag > 0 then (if x5.length < 5864062014805 then (graftwoodref11_With.j1 k x0 (x5 ++ [(⟨ak, al, ag⟩ : S36)]) ak al ag) else (none)) else (graftwoodref11_With.j1 k x0 x5 ak al ag))
def graftwoodref11_With.j1 : Nat → List (S36) → List (S36) → Int → Int → Int → Option ((List (S36)))
 | 0, _, _, _, _, _ => none
 | k + 1, x0, x5, ak, al, ag => graftwoodref11_With.l1 k x0 x5 0 ak al ag
def graftwoodref11_With.l1 : Nat → List (S36) → List (S36) → Int → Int → Int → Int → Option ((List (S36)))
 | 0, _, _, _, _, _, _ => none
 | k + 1, x0, x5, x7, ak, al, ag => if x7 < (x0.length : Int) then (if 0 ≤ x7 then ((graftwoodref11_Less.f ak al ag ((rd_T36 x0 x7).f0) ((rd_T36 x0 x7).f1) ((rd_T36 x0 x7).f2)).bind fun bd => (if bd = true then (if x5.length < 5864062014805 then (graftwoodref11_With.l1 k x0 (x5 ++ [(⟨(rd_T36 x0 x7).f0, (rd_T36 x0 x7).f1, (rd_T36 x0 x7).f2⟩ : S36)]) (wrap64 (x7 + 1)) ak al ag) else (none)) else (graftwoodref11_With.l1 k x0 x5 (wrap64 (x7 + 1)) ak al ag))) else (none)) else (some x5)
end
def graftwoodref11_With.f (k : Nat) (l0 : List (S36)) (a1_0 : Int) (a1_1 : Int) (a1_2 : Int) : Option ((List (S36))) := graftwoodref11_With.l0 k l0 ([] : List (S36)) 0 a1_0 a1_1 a1_2
theorem graftwoodref11_With.mono_l : ∀ k, (∀ y0 y1 y2 y3 y4 y5, LeO (graftwoodref11_With.l0 k y0 y1 y2 y3 y4 y5) (graftwoodref11_With.l0 (k + 1) y0 y1 y2 y3 y4 y5)) ∧ (∀ y0 y1 y2 y3 y4, LeO (graftwoodref11_With.j1 k y0 y1 y2 y3 y4) (graftwoodref11_With.j1 (k + 1) y0 y1 y2 y3 y4)) ∧ (∀ y0 y1 y2 y3 y4 y5, LeO (graftwoodref11_With.l1 k y0 y1 y2 y3 y4 y5) (graftwoodref11_With.l1 (k + 1) y0 y1 y2 y3 y4 y5))
 | 0 => ⟨fun _ _ _ _ _ _ r h => by simp [graftwoodref11_With.l0] at h, fun _ _ _ _ _ r h => by simp [graftwoodref11_With.j1] at h, fun _ _ _ _ _ _ r h => by simp [graftwoodref11_With.l1] at h⟩
 | k + 1 => by
  obtain ⟨ih0, ih1, ih2⟩ := graftwoodref11_With.mono_l k
  refine ⟨?_, ?_, ?_⟩
  ·intro y0 y1 y2 y3 y4 y5
   unfold graftwoodref11_With.l0
   repeat' first
   | (with_reducible exact ih0 _ _ _ _ _ _)
   | (with_reducible exact ih1 _ _ _ _ _)
   | (with_reducible exact ih2 _ _ _ _ _ _)
   | (with_reducible exact LeO.refl _)
   | (with_reducible exact LeO.none _)
   | (with_reducible refine LeO.ite ?_ ?_)
   | (with_reducible refine LeO.bind ?_ (fun _ => ?_))
   | exact ih0 _ _ _ _ _ _
   | exact ih1 _ _ _ _ _
   | exact ih2 _ _ _ _ _ _
   | exact LeO.none _
   | refine LeO.ite ?_ ?_
   | refine LeO.bind ?_ (fun _ => ?_)
  ·intro y0 y1 y2 y3 y4
   unfold graftwoodref11_With.j1
   repeat' first
   | (with_reducible exact ih0 _ _ _ _ _ _)
   | (with_reducible exact ih1 _ _ _ _ _)
   | (with_reducible exact ih2 _ _ _ _ _ _)
   | (with_reducible exact LeO.refl _)
   | (with_reducible exact LeO.none _)
   | (with_reducible refine LeO.ite ?_ ?_)
   | (with_reducible refine LeO.bind ?_ (fun _ => ?_))
   | exact ih0 _ _ _ _ _ _
   | exact ih1 _ _ _ _ _
   | exact ih2 _ _ _ _ _ _
   | exact LeO.none _
   | refine LeO.ite ?_ ?_
   | refine LeO.bind ?_ (fun _ => ?_)
  ·intro y0 y1 y2 y3 y4 y5
   unfold graftwoodref11_With.l1
   repeat' first
   | (with_reducible exact ih0 _ _ _ _ _ _)
   | (with_reducible exact ih1 _ _ _ _ _)
   | (with_reducible exact ih2 _ _ _ _ _ _)
   | (with_reducible exact LeO.refl _)
   | (with_reducible exact LeO.none _)
   | (with_reducible refine LeO.ite ?_ ?_)
   | (with_reducible refine LeO.bind ?_ (fun _ => ?_))
   | exact ih0 _ _ _ _ _ _
   | exact ih1 _ _ _ _ _
   | exact ih2 _ _ _ _ _ _
   | exact LeO.none _
   | refine LeO.ite ?_ ?_
   | refine LeO.bind ?_ (fun _ => ?_)
theorem graftwoodref11_With.mono : ∀ a0 a1 a2 a3 k, LeO (graftwoodref11_With.f k a0 a1 a2 a3) (graftwoodref11_With.f (k + 1) a0 a1 a2 a3) := by
 intro a0 a1 a2 a3 k
 obtain ⟨ih0, ih1, ih2⟩ := graftwoodref11_With.mono_l k
 unfold graftwoodref11_With.f
 repeat' first
   | (with_reducible exact ih0 _ _ _ _ _ _)
   | (with_reducible exact ih1 _ _ _ _ _)
   | (with_reducible exact ih2 _ _ _ _ _ _)
   | (with_reducible exact LeO.refl _)
   | (with_reducible exact LeO.none _)
   | (with_reducible refine LeO.ite ?_ ?_)
   | (with_reducible refine LeO.bind ?_ (fun _ => ?_))
   | exact ih0 _ _ _ _ _ _
   | exact ih1 _ _ _ _ _
   | exact ih2 _ _ _ _ _ _
   | exact LeO.none _
   | refine LeO.ite ?_ ?_
   | refine LeO.bind ?_ (fun _ => ?_)
set_option maxHeartbeats 8000000 in
set_option maxRecDepth 100000 in
theorem graftwoodref11_With.calls (k : Nat) (A0 : Option Addr) (c0 : Nat) (l0 : List (S36)) (a1_0 : Int) (a1_1 : Int) (a1_2 : Int) (r : List (S36)) (w : World) (hr0 : Kd.C k36 w A0 l0.length l0) (hc0 : l0.length ≤ c0) (h : graftwoodref11_With.f k l0 a1_0 a1_1 a1_2 = some r) :
  Calls Try.prog 16 #[.slice A0 l0.length c0, .agg #[.int .i64 a1_0, .int .i64 a1_1, .int .i64 a1_2]] w fun e w' => ∃ v0_ : Value, e = .returned (v0_) ∧ Kd.R k36 36 w' w.heap.size (fun _ => True) v0_ r ∧ Below w.heap.size w w' := by
 have hu36 := Try.underlying36
 have HR0 := Aside0.mk hr0
 have HC0 := Aside0.mk hc0
 clear hr0 hc0
 have HB := am (Below.refl w.heap.size w)
 have H : (graftwoodref11_With.l0 k l0 ([] : List (S36)) 0 a1_0 a1_1 a1_2) = some r := h
 clear h
 have H' := Aside0.mk H
 clear H
 go_enter Try.func16, Try.ntmps16
 go_wp2_with (first | ((with_reducible refine gate_dst (N := 3) rfl ?_); refine box_event ?hg (N := 3) ?hd (cs := #[.int .i64 a1_0, .int .i64 a1_1, .int .i64 a1_2]) (t := 36) ?hr ?_; (case hd => rfl); (case hg => rfl); (case hr => first | (go_simp; done) | (go_simp; rfl)); intro ad hg w3 hbox hb; have aa := am (hbox); have bD := am ((gT hg HB.out)); have bE := am ((gT hg HB.out)); replace HB := am (sT HB.out hb); clear hb hbox hg))
 go_loopg [5, 6] k (fun kq v5 v6 w' => ∃ (an : List (S36)) (ab : Int), v6 = .int .i64 ab ∧ Aside0 (graftwoodref11_With.l0 kq l0 an ab a1_0 a1_1 a1_2 = some r) ∧ Aside0 (kq ≤ k) ∧ Aside0 (Kd.R k36 36 w' w.heap.size (fun k_ => k_ ≠ ad) v5 an) ∧ Aside0 (w'.heap[ad]? = some (.cells #[.int .i64 a1_0, .int .i64 a1_1, .int .i64 a1_2] 36 (0, 0))) ∧ Aside0 (Below w.heap.size w w'))
 case atStart => exact ⟨(([] : List (S36))), (0), (by first | rfl | (simp; done) | (simp [*]; done)), H', ⟨Nat.le_refl _⟩, ⟨by first | exact Kd.R_nil _ _ _ _ _ | exact Kd.N_nil _ _ _ _ _ | exact Kd.V_nil _ _ _ _ _ | exact Kd.Q_nil _ _ _ _ _ | exact Kd.S_nil _ _ _ _ _⟩, ⟨bT aa.out⟩, ⟨eT HB.out⟩⟩
 case round =>
  clear H'
  try clear c1
  try clear p2
  obtain ⟨an, ab, rfl, HA, HK1, ae, aa, HB⟩ := hrel
  cases gk with
  | zero => exact absurd HA.out (by simp [graftwoodref11_With.l0])
  | succ k1 =>
   have H := HA.out
   clear HA
   simp only [graftwoodref11_With.l0] at H
   by_cases c4 : ab < (l0.length : Int)
   ·rw [if_pos c4] at H
    have a9 : decide (ab < (l0.length : Int)) = true := decide_eq_true c4
    clear c4
    by_cases c5 : 0 ≤ ab
    ·rw [if_pos c5] at H
     have bg : decide (0 ≤ ab) = true := decide_eq_true c5
     clear c5
     replace H := Option.bind_eq_some_iff.mp H
     obtain ⟨bc, A60, H⟩ := H
     replace H : (if bc = true then (if an.length < 5864062014805 then (graftwoodref11_With.l0 k1 l0 (an ++ [(⟨(rd_T36 l0 ab).f0, (rd_T36 l0 ab).f1, (rd_T36 l0 ab).f2⟩ : S36)]) (wrap64 (ab + 1)) a1_0 a1_1 a1_2) else (none)) else (graftwoodref11_With.l0 k1 l0 an (wrap64 (ab + 1)) a1_0 a1_1 a1_2)) = some r := H
     have A6 := Aside0.mk A60
     clear A60
     by_cases c7 : bc = true
     ·subst c7
      have H1 : (if an.length < 5864062014805 then (graftwoodref11_With.l0 k1 l0 (an ++ [(⟨(rd_T36 l0 ab).f0, (rd_T36 l0 ab).f1, (rd_T36 l0 ab).f2⟩ : S36)]) (wrap64 (ab + 1)) a1_0 a1_1 a1_2) else (none)) = some r := by rw [if_pos rfl] at H; exact H
      clear H
      have H := H1
      clear H1
      by_cases c8 : an.length < 5864062014805
      ·rw [if_pos c8] at H
       have LMc8 := Aside0.mk c8
       clear c8
       obtain ⟨bi, aE⟩ : ∃ y_ : List (S36), y_ = (an ++ [(⟨(rd_T36 l0 ab).f0, (rd_T36 l0 ab).f1, (rd_T36 l0 ab).f2⟩ : S36)]) := ⟨_, rfl⟩
       replace H : (graftwoodref11_With.l0 k1 l0 bi (wrap64 (ab + 1)) a1_0 a1_1 a1_2) = some r := by first | (rw [aE]; with_reducible exact H) | (have H2_ := (Option.bind_some _ _).symm.trans H; rw [aE]; with_reducible exact H2_) | (have H2_ := (Option.bind_some _ _).symm.trans H; with_reducible exact H2_) | with_reducible exact H | (rw [aE]; exact H) | exact H
       have Ny258 := Aside0.mk aE
       clear aE
       have H' := Aside0.mk H
       clear H
       try go_wp2
       replace ae := am (Kd.R_drew ae.out)
       replace aa := am (blk_drew aa.out)
       replace HB := am (below_drew1 HB.out)
       have p255 : 0 ≤ (ab : Int) := of_decide_eq_true (by first | (with_reducible assumption) | assumption)
       have q255 : ab < (l0.length : Int) := of_decide_eq_true (by first | (with_reducible assumption) | assumption)
       obtain ⟨ad255, e255, ah, ai, aj⟩ := at_T36 HR0.out ab p255 q255
       have hw255_2 := aj
       have hw255_1 := ai
       have hw255_0 := ah
       cases e255
       replace ah := (HB.out.cell (World.block_lt_of_cell? w _ ah)).trans ah
       replace ai := (HB.out.cell (World.block_lt_of_cell? w _ ai)).trans ai
       replace aj := (HB.out.cell (World.block_lt_of_cell? w _ aj)).trans aj
       replace p255 := eq_true p255
       replace q255 := eq_true q255
       refine start_ (n := 6) (S := fun w' => w'.cell? ⟨ad, 0, none⟩ = some (.int .i64 a1_0) ∧ w'.cell? ⟨ad, 1, none⟩ = some (.int .i64 a1_1) ∧ w'.cell? ⟨ad, 2, none⟩ = some (.int .i64 a1_2) ∧ w'.cell? (ad255.add ((ab).toNat * 3)) = some (.int .i64 ((rd_T36 l0 ab).f0)) ∧ w'.cell? ⟨(ad255.add ((ab).toNat * 3)).block, (ad255.add ((ab).toNat * 3)).off + 1, none⟩ = some (.int .i64 ((rd_T36 l0 ab).f1)) ∧ w'.cell? ⟨(ad255.add ((ab).toNat * 3)).block, (ad255.add ((ab).toNat * 3)).off + 2, none⟩ = some (.int .i64 ((rd_T36 l0 ab).f2))) (ds := []) (bA 6 0) (by kernel_rfl) rfl (by kernel_rfl) ⟨cT aa 0, cT aa 1, cT aa 2, ((HB.out.cell (World.block_lt_of_cell? w _ hw255_0)).trans hw255_0), ((HB.out.cell (World.block_lt_of_cell? w _ hw255_1)).trans hw255_1), ((HB.out.cell (World.block_lt_of_cell? w _ hw255_2)).trans hw255_2)⟩ (fun hHeld => ?_)
       generalize wr.drew = w9 at ae aa HB ah ai aj hHeld ⊢
       refine pure_ (i := 0) (N := some 14) (v := ?_) (a' := ?_) (bA 6 1) rfl rfl (by kernel_rfl) (fun _ _ _ h => h) (Or.inl ⟨by rfl, ?_⟩) ?_ ?_
       rotate_left
       ·intro w'
        go_simp
        with_reducible rfl
       rotate_left
       ·simp only [pS]
        rfl
       refine pure_ (i := 1) (N := some 15) (v := ?_) (a' := ?_) (bA 6 3) rfl rfl (by kernel_rfl) (fun _ _ _ h => h) (Or.inl ⟨by rfl, ?_⟩) ?_ ?_
       rotate_left
       ·intro w'
        go_simp
        with_reducible rfl
       rotate_left
       ·simp only [pS]
        rfl
       refine pure_ (i := 2) (N := some 16) (v := ?_) (a' := ?_) (bA 6 7) rfl rfl (by kernel_rfl) (fun _ _ _ h => h) (Or.inl ⟨by rfl, ?_⟩) ?_ ?_
       rotate_left
       ·intro w'
        go_simp
        with_reducible rfl
       rotate_left
       ·simp only [pS]
        rfl
       refine take_ (i := 3) (N := some 17) (v := ?_) (a' := ?_) (bA 6 15) rfl rfl (by kernel_rfl) (fun _ _ _ h => h) (Or.inl ⟨by rfl, ?_⟩) hHeld ?_ ?_
       rotate_left
       ·rintro w' ⟨s0, s1, s2, s3, s4, s5⟩
        go_simp
        with_reducible rfl
       rotate_left
       ·simp only [pS]
        rfl
       refine take_ (i := 4) (N := some 18) (v := ?_) (a' := ?_) (bA 6 31) rfl rfl (by kernel_rfl) (fun _ _ _ h => h) (Or.inl ⟨by rfl, ?_⟩) hHeld ?_ ?_
       rotate_left
       ·rintro w' ⟨s0, s1, s2, s3, s4, s5⟩
        go_simp
        with_reducible rfl
       rotate_left
       ·simp only [pS]
        rfl
       refine one_ (i := 5) (N := some 19) (bA 6 63) rfl rfl (by kernel_rfl) (by decide) (fun K hK => ?_)
       refine gS Try.func39 #[.agg #[.int .i64 ((rd_T36 l0 ab).f0), .int .i64 ((rd_T36 l0 ab).f1), .int .i64 ((rd_T36 l0 ab).f2)], .agg #[.int .i64 a1_0, .int .i64 a1_1, .int .i64 a1_2]] ?_
       with_reducible refine (graftwoodref11_Less.calls ((rd_T36 l0 ab).f0) ((rd_T36 l0 ab).f1) ((rd_T36 l0 ab).f2) a1_0 a1_1 a1_2 true _ A6.out).mono ?_
       rintro e w10 ⟨rfl, hb⟩
       refine ⟨_, rfl, ?_⟩
       replace ae := am (rB ae.out hb)
       replace aa := am (bB aa.out hb)
       replace HB := am (sT HB.out hb)
       (try clear hb)
       (try clear hb2)
       (try clear hk)
       (try clear hi)
       refine hK.out _ _ ⟨cT aa 0, cT aa 1, cT aa 2, ((HB.out.cell (World.block_lt_of_cell? w _ hw255_0)).trans hw255_0), ((HB.out.cell (World.block_lt_of_cell? w _ hw255_1)).trans hw255_1), ((HB.out.cell (World.block_lt_of_cell? w _ hw255_2)).trans hw255_2)⟩ (fun hHeld => ?_)
       clear hK K
       refine mN 19 ?_
       refine done_ (by kernel_rfl) ?_
       have p257 : 0 ≤ (ab : Int) := of_decide_eq_true (by first | (with_reducible assumption) | assumption)
       have q257 : ab < (l0.length : Int) := of_decide_eq_true (by first | (with_reducible assumption) | assumption)
       obtain ⟨ad257, e257, au, av, aw⟩ := at_T36 HR0.out ab p257 q257
       obtain rfl : ad255 = ad257 := (by injection e257)
       replace au := (HB.out.cell (World.block_lt_of_cell? w _ au)).trans au
       replace av := (HB.out.cell (World.block_lt_of_cell? w _ av)).trans av
       replace aw := (HB.out.cell (World.block_lt_of_cell? w _ aw)).trans aw
       replace p257 := eq_true p257
       replace q257 := eq_true q257
       try go_wp2_with (first | ((with_reducible refine gate_builtin (b := .append) (xs := #[.tmp 20, .tmp 25]) rfl ?_); at_builtin; refine Kd.R_append k36 (w0 := w) w.heap.size rfl (.tmp 20) (.tmp 25) 22 36 (.agg #[(.int .i64 0), (.int .i64 0), (.int .i64 0)]) 24 rfl Try.underlying22 info36 rfl (by decide) (by omega) u5 an (⟨(rd_T36 l0 ab).f0, (rd_T36 l0 ab).f1, (rd_T36 l0 ab).f2⟩ : S36) [.int .i64 ((rd_T36 l0 ab).f0), .int .i64 ((rd_T36 l0 ab).f1), .int .i64 ((rd_T36 l0 ab).f2)] (fun k_ => k_ ≠ ad) (fun _ => False) rfl rfl ?aP (fun _ hk => hk.elim) ?aF ?aO ?aB ?aS ?aL ?_; (case aP => exact k36_mkM _ _ _ (⟨(rd_T36 l0 ab).f0, (rd_T36 l0 ab).f1, (rd_T36 l0 ab).f2⟩ : S36)); (case aB => exact (eT HB.out)); (case aF => exact (fun k_ hk => Kd.freshB (g := ad) (o := .cells #[.int .i64 a1_0, .int .i64 a1_1, .int .i64 a1_2] 36 (0, 0)) (bT aa.out) k_ hk)); (case aO => exact (rT ae.out)); (case aS => exact (below_size (eT HB.out))); (case aL => have := LMc8.out; omega); intro bG w11 ho hb hg hat; rw [← Ny258.out] at ho; replace aa := am (blk_grown (g := ad) (o := .cells #[.int .i64 a1_0, .int .i64 a1_1, .int .i64 a1_2] 36 (0, 0)) (bT aa.out) hg (Kd.R_away ae.out (fun _ hk => hk))); replace HB := am (hb); have bj := am (ho); clear ae ho hb hg hat))
       go_roundg k1
       case measure => have := HK1.out; omega
       case rel => exact ⟨(bi), (wrap64 (ab + 1)), (by first | rfl | (simp; done) | (simp [*]; done)), H', ⟨by have := HK1.out; omega⟩, ⟨rT bj.out⟩, ⟨bT aa.out⟩, ⟨eT HB.out⟩⟩
      ·rw [if_neg c8] at H
       exact absurd H (by simp)
     ·replace c7 := Bool.eq_false_iff.mpr c7
      subst c7
      have H1 : (graftwoodref11_With.l0 k1 l0 an (wrap64 (ab + 1)) a1_0 a1_1 a1_2) = some r := by rw [if_neg (show ¬ (false = true) by decide)] at H; exact H
      clear H
      have H := H1
      clear H1
      have H' := Aside0.mk H
      clear H
      try go_wp2
      replace ae := am (Kd.R_drew ae.out)
      replace aa := am (blk_drew aa.out)
      replace HB := am (below_drew1 HB.out)
      have p255 : 0 ≤ (ab : Int) := of_decide_eq_true (by first | (with_reducible assumption) | assumption)
      have q255 : ab < (l0.length : Int) := of_decide_eq_true (by first | (with_reducible assumption) | assumption)
      obtain ⟨ad255, e255, ah, ai, aj⟩ := at_T36 HR0.out ab p255 q255
      have hw255_2 := aj
      have hw255_1 := ai
      have hw255_0 := ah
      cases e255
      replace ah := (HB.out.cell (World.block_lt_of_cell? w _ ah)).trans ah
      replace ai := (HB.out.cell (World.block_lt_of_cell? w _ ai)).trans ai
      replace aj := (HB.out.cell (World.block_lt_of_cell? w _ aj)).trans aj
      replace p255 := eq_true p255
      replace q255 := eq_true q255
      refine start_ (n := 6) (S := fun w' => w'.cell? ⟨ad, 0, none⟩ = some (.int .i64 a1_0) ∧ w'.cell? ⟨ad, 1, none⟩ = some (.int .i64 a1_1) ∧ w'.cell? ⟨ad, 2, none⟩ = some (.int .i64 a1_2) ∧ w'.cell? (ad255.add ((ab).toNat * 3)) = some (.int .i64 ((rd_T36 l0 ab).f0)) ∧ w'.cell? ⟨(ad255.add ((ab).toNat * 3)).block, (ad255.add ((ab).toNat * 3)).off + 1, none⟩ = some (.int .i64 ((rd_T36 l0 ab).f1)) ∧ w'.cell? ⟨(ad255.add ((ab).toNat * 3)).block, (ad255.add ((ab).toNat * 3)).off + 2, none⟩ = some (.int .i64 ((rd_T36 l0 ab).f2))) (ds := []) (bA 6 0) (by kernel_rfl) rfl (by kernel_rfl) ⟨cT aa 0, cT aa 1, cT aa 2, ((HB.out.cell (World.block_lt_of_cell? w _ hw255_0)).trans hw255_0), ((HB.out.cell (World.block_lt_of_cell? w _ hw255_1)).trans hw255_1), ((HB.out.cell (World.block_lt_of_cell? w _ hw255_2)).trans hw255_2)⟩ (fun hHeld => ?_)
      generalize wr.drew = w12 at ae aa HB ah ai aj hHeld ⊢
      refine pure_ (i := 0) (N := some 14) (v := ?_) (a' := ?_) (bA 6 1) rfl rfl (by kernel_rfl) (fun _ _ _ h => h) (Or.inl ⟨by rfl, ?_⟩) ?_ ?_
      rotate_left
      ·intro w'
       go_simp
       with_reducible rfl
      rotate_left
      ·simp only [pS]
       rfl
      refine pure_ (i := 1) (N := some 15) (v := ?_) (a' := ?_) (bA 6 3) rfl rfl (by kernel_rfl) (fun _ _ _ h => h) (Or.inl ⟨by rfl, ?_⟩) ?_ ?_
      rotate_left
      ·intro w'
       go_simp
       with_reducible rfl
      rotate_left
      ·simp only [pS]
       rfl
      refine pure_ (i := 2) (N := some 16) (v := ?_) (a' := ?_) (bA 6 7) rfl rfl (by kernel_rfl) (fun _ _ _ h => h) (Or.inl ⟨by rfl, ?_⟩) ?_ ?_
      rotate_left
      ·intro w'
       go_simp
       with_reducible rfl
      rotate_left
      ·simp only [pS]
       rfl
      refine take_ (i := 3) (N := some 17) (v := ?_) (a' := ?_) (bA 6 15) rfl rfl (by kernel_rfl) (fun _ _ _ h => h) (Or.inl ⟨by rfl, ?_⟩) hHeld ?_ ?_
      rotate_left
      ·rintro w' ⟨s0, s1, s2, s3, s4, s5⟩
       go_simp
       with_reducible rfl
      rotate_left
      ·simp only [pS]
       rfl
      refine take_ (i := 4) (N := some 18) (v := ?_) (a' := ?_) (bA 6 31) rfl rfl (by kernel_rfl) (fun _ _ _ h => h) (Or.inl ⟨by rfl, ?_⟩) hHeld ?_ ?_
      rotate_left
      ·rintro w' ⟨s0, s1, s2, s3, s4, s5⟩
       go_simp
       with_reducible rfl
      rotate_left
      ·simp only [pS]
       rfl
      refine one_ (i := 5) (N := some 19) (bA 6 63) rfl rfl (by kernel_rfl) (by decide) (fun K hK => ?_)
      refine gS Try.func39 #[.agg #[.int .i64 ((rd_T36 l0 ab).f0), .int .i64 ((rd_T36 l0 ab).f1), .int .i64 ((rd_T36 l0 ab).f2)], .agg #[.int .i64 a1_0, .int .i64 a1_1, .int .i64 a1_2]] ?_
      with_reducible refine (graftwoodref11_Less.calls ((rd_T36 l0 ab).f0) ((rd_T36 l0 ab).f1) ((rd_T36 l0 ab).f2) a1_0 a1_1 a1_2 false _ A6.out).mono ?_
      rintro e w13 ⟨rfl, hb⟩
      refine ⟨_, rfl, ?_⟩
      replace ae := am (rB ae.out hb)
      replace aa := am (bB aa.out hb)
      replace HB := am (sT HB.out hb)
      (try clear hb)
      (try clear hb2)
      (try clear hk)
      (try clear hi)
      refine hK.out _ _ ⟨cT aa 0, cT aa 1, cT aa 2, ((HB.out.cell (World.block_lt_of_cell? w _ hw255_0)).trans hw255_0), ((HB.out.cell (World.block_lt_of_cell? w _ hw255_1)).trans hw255_1), ((HB.out.cell (World.block_lt_of_cell? w _ hw255_2)).trans hw255_2)⟩ (fun hHeld => ?_)
      clear hK K
      refine mN 19 ?_
      refine done_ (by kernel_rfl) ?_
      try go_wp2
      go_roundg k1
      case measure => have := HK1.out; omega
      case rel => exact ⟨(an), (wrap64 (ab + 1)), (by first | rfl | (simp; done) | (simp [*]; done)), H', ⟨by have := HK1.out; omega⟩, ⟨rT ae.out⟩, ⟨bT aa.out⟩, ⟨eT HB.out⟩⟩
    ·rw [if_neg c5] at H
     exact absurd H (by simp)
   ·rw [if_neg c4] at H
    have a9 : decide (ab < (l0.length : Int)) = false := decide_eq_false c4
    clear c4
    have bh := Aside0.mk H
    clear H
    have aN : wr.cell? ⟨ad, 0, none⟩ = some (.int .i64 a1_0) := cT aa 0
    have aQ : wr.cell? ⟨ad, 1, none⟩ = some (.int .i64 a1_1) := cT aa 1
    have aR : wr.cell? ⟨ad, 2, none⟩ = some (.int .i64 a1_2) := cT aa 2
    have aU := blk_frozen aa.out 0
    have aV := blk_frozen aa.out 1
    have aW := blk_frozen aa.out 2
    go_upto_if 29 with (fail)
    go_cut [5] (fun v5 wc => ∃ (kq : Nat) (aX : List (S36)), Aside0 (graftwoodref11_With.j1 kq l0 aX a1_0 a1_1 a1_2 = some r) ∧ Aside0 (kq ≤ k1) ∧ Aside0 (Kd.R k36 36 wc w.heap.size (fun k_ => k_ ≠ ad) v5 aX) ∧ Aside0 (wc.heap[ad]? = some (.cells #[.int .i64 a1_0, .int .i64 a1_1, .int .i64 a1_2] 36 (0, 0))) ∧ Aside0 (Below w.heap.size w wc))
    case first =>
     have H := bh.out
     clear bh
     by_cases c16 : a1_2 > 0
     ·rw [if_pos c16] at H
      have ay : decide (0 < a1_2) = true := decide_eq_true c16
      clear c16
      (first | rw [ay] | (simp only [i64_w, i32_w]; rw [ay]) | skip)
      by_cases c17 : an.length < 5864062014805
      ·rw [if_pos c17] at H
       have LMc17 := Aside0.mk c17
       clear c17
       obtain ⟨bk, aG⟩ : ∃ y_ : List (S36), y_ = (an ++ [(⟨a1_0, a1_1, a1_2⟩ : S36)]) := ⟨_, rfl⟩
       replace H : (graftwoodref11_With.j1 k1 l0 bk a1_0 a1_1 a1_2) = some r := by first | (rw [aG]; with_reducible exact H) | (have H2_ := (Option.bind_some _ _).symm.trans H; rw [aG]; with_reducible exact H2_) | (have H2_ := (Option.bind_some _ _).symm.trans H; with_reducible exact H2_) | with_reducible exact H | (rw [aG]; exact H) | exact H
       have Ny261 := Aside0.mk aG
       clear aG
       have H' := Aside0.mk H
       clear H
       have aY : wr.cell? ⟨ad, 0, none⟩ = some (.int .i64 a1_0) := cT aa 0
       have aZ : wr.cell? ⟨ad, 1, none⟩ = some (.int .i64 a1_1) := cT aa 1
       have a4 : wr.cell? ⟨ad, 2, none⟩ = some (.int .i64 a1_2) := cT aa 2
       have a5 := blk_frozen aa.out 0
       have a6 := blk_frozen aa.out 1
       have a7 := blk_frozen aa.out 2
       go_wp2_with (first | ((with_reducible refine gate_builtin (b := .append) (xs := #[.tmp 30, .tmp 32]) rfl ?_); at_builtin; refine Kd.R_append k36 (w0 := w) w.heap.size rfl (.tmp 30) (.tmp 32) 22 36 (.agg #[(.int .i64 0), (.int .i64 0), (.int .i64 0)]) 24 rfl Try.underlying22 info36 rfl (by decide) (by omega) u5 an (⟨a1_0, a1_1, a1_2⟩ : S36) [.int .i64 a1_0, .int .i64 a1_1, .int .i64 a1_2] (fun k_ => k_ ≠ ad) (fun _ => False) rfl rfl ?aP (fun _ hk => hk.elim) ?aF ?aO ?aB ?aS ?aL ?_; (case aP => exact k36_mkM _ _ _ (⟨a1_0, a1_1, a1_2⟩ : S36)); (case aB => exact (eT HB.out)); (case aF => exact (fun k_ hk => Kd.freshB (g := ad) (o := .cells #[.int .i64 a1_0, .int .i64 a1_1, .int .i64 a1_2] 36 (0, 0)) (bT aa.out) k_ hk)); (case aO => exact (rT ae.out)); (case aS => exact (below_size (eT HB.out))); (case aL => have := LMc17.out; omega); intro bH w19 ho hb hg hat; rw [← Ny261.out] at ho; replace aa := am (blk_grown (g := ad) (o := .cells #[.int .i64 a1_0, .int .i64 a1_1, .int .i64 a1_2] 36 (0, 0)) (bT aa.out) hg (Kd.R_away ae.out (fun _ hk => hk))); replace HB := am (hb); have bl := am (ho); clear ae ho hb hg hat))
       go_meet
       case rel => exact ⟨_, (bk), H', ⟨by have := HK1.out; first | omega | exact Nat.le_refl _⟩, ⟨rT bl.out⟩, ⟨bT aa.out⟩, ⟨eT HB.out⟩⟩
      ·rw [if_neg c17] at H
       exact absurd H (by simp)
     ·rw [if_neg c16] at H
      have ay : decide (0 < a1_2) = false := decide_eq_false c16
      clear c16
      (first | rw [ay] | (simp only [i64_w, i32_w]; rw [ay]) | skip)
      have H' := Aside0.mk H
      clear H
      go_wp2
      go_meet
      case rel => exact ⟨_, (an), H', ⟨by have := HK1.out; first | omega | exact Nat.le_refl _⟩, ⟨rT ae.out⟩, ⟨bT aa.out⟩, ⟨eT HB.out⟩⟩
    case rest =>
     clear bh
     try clear c1
     try clear p2
     try clear q2
     try clear hx2
     try clear c3
     try clear c4
     try clear a9
     try clear c5
     try clear bg
     try clear p6
     try clear c7
     try clear c8
     try clear c16
     try clear ay
     try clear c17
     try clear aN
     try clear aQ
     try clear aR
     try clear aY
     try clear aZ
     try clear a4
     try clear aU
     try clear aV
     try clear aW
     try clear a5
     try clear a6
     try clear a7
     try clear ah
     try clear ai
     try clear aj
     try clear au
     try clear av
     try clear aw
     try clear p2
     try clear p255
     try clear p257
     try clear q255
     try clear q257
     obtain ⟨kq, aX, HA, be, ae, aa, HB⟩ := hcut
     cases kq with
     | zero => exact absurd HA.out (by simp [graftwoodref11_With.j1])
     | succ kj13 =>
      have H := HA.out
      clear HA
      simp only [graftwoodref11_With.j1] at H
      have H' := Aside0.mk H
      clear H
      go_wp2
      go_loopg [5, 7] kj13 (fun kq v5 v7 w' => ∃ (ax : List (S36)) (ac : Int), v7 = .int .i64 ac ∧ Aside0 (graftwoodref11_With.l1 kq l0 ax ac a1_0 a1_1 a1_2 = some r) ∧ Aside0 (kq ≤ kj13) ∧ Aside0 (Kd.R k36 36 w' w.heap.size (fun k_ => k_ ≠ ad) v5 ax) ∧ Aside0 (w'.heap[ad]? = some (.cells #[.int .i64 a1_0, .int .i64 a1_1, .int .i64 a1_2] 36 (0, 0))) ∧ Aside0 (Below w.heap.size w w'))
      case atStart => exact ⟨(aX), (0), (by first | rfl | (simp; done) | (simp [*]; done)), H', ⟨Nat.le_refl _⟩, ⟨rT ae.out⟩, ⟨bT aa.out⟩, ⟨eT HB.out⟩⟩
      case round =>
       clear H'
       try clear c1
       try clear p2
       try clear q2
       try clear hx2
       try clear c3
       try clear c4
       try clear a9
       try clear c5
       try clear bg
       try clear p6
       try clear c7
       try clear c8
       try clear c16
       try clear ay
       try clear c17
       try clear aN
       try clear aQ
       try clear aR
       try clear aY
       try clear aZ
       try clear a4
       try clear aU
       try clear aV
       try clear aW
       try clear a5
       try clear a6
       try clear a7
       try clear ah
       try clear ai
       try clear aj
       try clear au
       try clear av
       try clear aw
       try clear p2
       try clear p255
       try clear p257
       try clear p6
       try clear q2
       try clear q255
       try clear q257
       obtain ⟨ax, ac, rfl, HA, HK3, ae, aa, HB⟩ := hrel
       cases gk with
       | zero => exact absurd HA.out (by simp [graftwoodref11_With.l1])
       | succ k3 =>
        have H := HA.out
        clear HA
        simp only [graftwoodref11_With.l1] at H
        by_cases c20 : ac < (l0.length : Int)
        ·rw [if_pos c20] at H
         have bm : decide (ac < (l0.length : Int)) = true := decide_eq_true c20
         clear c20
         by_cases c21 : 0 ≤ ac
         ·rw [if_pos c21] at H
          have bF : decide (0 ≤ ac) = true := decide_eq_true c21
          clear c21
          replace H := Option.bind_eq_some_iff.mp H
          obtain ⟨bd, bn, H⟩ := H
          replace H : (if bd = true then (if ax.length < 5864062014805 then (graftwoodref11_With.l1 k3 l0 (ax ++ [(⟨(rd_T36 l0 ac).f0, (rd_T36 l0 ac).f1, (rd_T36 l0 ac).f2⟩ : S36)]) (wrap64 (ac + 1)) a1_0 a1_1 a1_2) else (none)) else (graftwoodref11_With.l1 k3 l0 ax (wrap64 (ac + 1)) a1_0 a1_1 a1_2)) = some r := H
          have A22 := Aside0.mk bn
          clear bn
          by_cases c23 : bd = true
          ·subst c23
           have H1 : (if ax.length < 5864062014805 then (graftwoodref11_With.l1 k3 l0 (ax ++ [(⟨(rd_T36 l0 ac).f0, (rd_T36 l0 ac).f1, (rd_T36 l0 ac).f2⟩ : S36)]) (wrap64 (ac + 1)) a1_0 a1_1 a1_2) else (none)) = some r := by rw [if_pos rfl] at H; exact H
           clear H
           have H := H1
           clear H1
           by_cases c24 : ax.length < 5864062014805
           ·rw [if_pos c24] at H
            have LMc24 := Aside0.mk c24
            clear c24
            obtain ⟨bo, aH⟩ : ∃ y_ : List (S36), y_ = (ax ++ [(⟨(rd_T36 l0 ac).f0, (rd_T36 l0 ac).f1, (rd_T36 l0 ac).f2⟩ : S36)]) := ⟨_, rfl⟩
            replace H : (graftwoodref11_With.l1 k3 l0 bo (wrap64 (ac + 1)) a1_0 a1_1 a1_2) = some r := by first | (rw [aH]; with_reducible exact H) | (have H2_ := (Option.bind_some _ _).symm.trans H; rw [aH]; with_reducible exact H2_) | (have H2_ := (Option.bind_some _ _).symm.trans H; with_reducible exact H2_) | with_reducible exact H | (rw [aH]; exact H) | exact H
            have Ny267 := Aside0.mk aH
            clear aH
            have H' := Aside0.mk H
            clear H
            try go_wp2
            replace ae := am (Kd.R_drew ae.out)
            replace aa := am (blk_drew aa.out)
            replace HB := am (below_drew1 HB.out)
            have p264 : 0 ≤ (ac : Int) := of_decide_eq_true (by first | (with_reducible assumption) | assumption)
            have q264 : ac < (l0.length : Int) := of_decide_eq_true (by first | (with_reducible assumption) | assumption)
            obtain ⟨ad264, e264, ao, ap, aq⟩ := at_T36 HR0.out ac p264 q264
            have hw264_2 := aq
            have hw264_1 := ap
            have hw264_0 := ao
            cases e264
            replace ao := (HB.out.cell (World.block_lt_of_cell? w _ ao)).trans ao
            replace ap := (HB.out.cell (World.block_lt_of_cell? w _ ap)).trans ap
            replace aq := (HB.out.cell (World.block_lt_of_cell? w _ aq)).trans aq
            replace p264 := eq_true p264
            replace q264 := eq_true q264
            refine start_ (n := 6) (S := fun w' => w'.cell? ⟨ad, 0, none⟩ = some (.int .i64 a1_0) ∧ w'.cell? ⟨ad, 1, none⟩ = some (.int .i64 a1_1) ∧ w'.cell? ⟨ad, 2, none⟩ = some (.int .i64 a1_2) ∧ w'.cell? (ad264.add ((ac).toNat * 3)) = some (.int .i64 ((rd_T36 l0 ac).f0)) ∧ w'.cell? ⟨(ad264.add ((ac).toNat * 3)).block, (ad264.add ((ac).toNat * 3)).off + 1, none⟩ = some (.int .i64 ((rd_T36 l0 ac).f1)) ∧ w'.cell? ⟨(ad264.add ((ac).toNat * 3)).block, (ad264.add ((ac).toNat * 3)).off + 2, none⟩ = some (.int .i64 ((rd_T36 l0 ac).f2))) (ds := []) (bA 6 0) (by kernel_rfl) rfl (by kernel_rfl) ⟨cT aa 0, cT aa 1, cT aa 2, ((HB.out.cell (World.block_lt_of_cell? w _ hw264_0)).trans hw264_0), ((HB.out.cell (World.block_lt_of_cell? w _ hw264_1)).trans hw264_1), ((HB.out.cell (World.block_lt_of_cell? w _ hw264_2)).trans hw264_2)⟩ (fun hHeld => ?_)
            generalize wr.drew = w25 at ae aa HB ao ap aq hHeld ⊢
            refine pure_ (i := 1) (N := some 41) (v := ?_) (a' := ?_) (bA 6 2) rfl rfl (by kernel_rfl) (fun _ _ _ h => h) (Or.inl ⟨by rfl, ?_⟩) ?_ ?_
            rotate_left
            ·intro w'
             go_simp
             with_reducible rfl
            rotate_left
            ·simp only [pS]
             rfl
            refine pure_ (i := 2) (N := some 42) (v := ?_) (a' := ?_) (bA 6 6) rfl rfl (by kernel_rfl) (fun _ _ _ h => h) (Or.inl ⟨by rfl, ?_⟩) ?_ ?_
            rotate_left
            ·intro w'
             go_simp
             with_reducible rfl
            rotate_left
            ·simp only [pS]
             rfl
            refine pure_ (i := 3) (N := some 43) (v := ?_) (a' := ?_) (bA 6 14) rfl rfl (by kernel_rfl) (fun _ _ _ h => h) (Or.inl ⟨by rfl, ?_⟩) ?_ ?_
            rotate_left
            ·intro w'
             go_simp
             with_reducible rfl
            rotate_left
            ·simp only [pS]
             rfl
            refine take_ (i := 0) (N := some 40) (v := ?_) (a' := ?_) (bA 6 15) rfl rfl (by kernel_rfl) (fun _ _ _ h => h) (Or.inl ⟨by rfl, ?_⟩) hHeld ?_ ?_
            rotate_left
            ·rintro w' ⟨s0, s1, s2, s3, s4, s5⟩
             go_simp
             with_reducible rfl
            rotate_left
            ·simp only [pS]
             rfl
            refine take_ (i := 4) (N := some 44) (v := ?_) (a' := ?_) (bA 6 31) rfl rfl (by kernel_rfl) (fun _ _ _ h => h) (Or.inl ⟨by rfl, ?_⟩) hHeld ?_ ?_
            rotate_left
            ·rintro w' ⟨s0, s1, s2, s3, s4, s5⟩
             go_simp
             with_reducible rfl
            rotate_left
            ·simp only [pS]
             rfl
            refine one_ (i := 5) (N := some 45) (bA 6 63) rfl rfl (by kernel_rfl) (by decide) (fun K hK => ?_)
            refine gS Try.func39 #[.agg #[.int .i64 a1_0, .int .i64 a1_1, .int .i64 a1_2], .agg #[.int .i64 ((rd_T36 l0 ac).f0), .int .i64 ((rd_T36 l0 ac).f1), .int .i64 ((rd_T36 l0 ac).f2)]] ?_
            with_reducible refine (graftwoodref11_Less.calls a1_0 a1_1 a1_2 ((rd_T36 l0 ac).f0) ((rd_T36 l0 ac).f1) ((rd_T36 l0 ac).f2) true _ A22.out).mono ?_
            rintro e w26 ⟨rfl, hb⟩
            refine ⟨_, rfl, ?_⟩
            replace ae := am (rB ae.out hb)
            replace aa := am (bB aa.out hb)
            replace HB := am (sT HB.out hb)
            (try clear hb)
            (try clear hb2)
            (try clear hk)
            (try clear hi)
            refine hK.out _ _ ⟨cT aa 0, cT aa 1, cT aa 2, ((HB.out.cell (World.block_lt_of_cell? w _ hw264_0)).trans hw264_0), ((HB.out.cell (World.block_lt_of_cell? w _ hw264_1)).trans hw264_1), ((HB.out.cell (World.block_lt_of_cell? w _ hw264_2)).trans hw264_2)⟩ (fun hHeld => ?_)
            clear hK K
            refine mN 45 ?_
            refine done_ (by kernel_rfl) ?_
            have p266 : 0 ≤ (ac : Int) := of_decide_eq_true (by first | (with_reducible assumption) | assumption)
            have q266 : ac < (l0.length : Int) := of_decide_eq_true (by first | (with_reducible assumption) | assumption)
            obtain ⟨ad266, e266, az, aA, aC⟩ := at_T36 HR0.out ac p266 q266
            obtain rfl : ad264 = ad266 := (by injection e266)
            replace az := (HB.out.cell (World.block_lt_of_cell? w _ az)).trans az
            replace aA := (HB.out.cell (World.block_lt_of_cell? w _ aA)).trans aA
            replace aC := (HB.out.cell (World.block_lt_of_cell? w _ aC)).trans aC
            replace p266 := eq_true p266
            replace q266 := eq_true q266
            try go_wp2_with (first | ((with_reducible refine gate_builtin (b := .append) (xs := #[.tmp 46, .tmp 51]) rfl ?_); at_builtin; refine Kd.R_append k36 (w0 := w) w.heap.size rfl (.tmp 46) (.tmp 51) 22 36 (.agg #[(.int .i64 0), (.int .i64 0), (.int .i64 0)]) 24 rfl Try.underlying22 info36 rfl (by decide) (by omega) u5 ax (⟨(rd_T36 l0 ac).f0, (rd_T36 l0 ac).f1, (rd_T36 l0 ac).f2⟩ : S36) [.int .i64 ((rd_T36 l0 ac).f0), .int .i64 ((rd_T36 l0 ac).f1), .int .i64 ((rd_T36 l0 ac).f2)] (fun k_ => k_ ≠ ad) (fun _ => False) rfl rfl ?aP (fun _ hk => hk.elim) ?aF ?aO ?aB ?aS ?aL ?_; (case aP => exact k36_mkM _ _ _ (⟨(rd_T36 l0 ac).f0, (rd_T36 l0 ac).f1, (rd_T36 l0 ac).f2⟩ : S36)); (case aB => exact (eT HB.out)); (case aF => exact (fun k_ hk => Kd.freshB (g := ad) (o := .cells #[.int .i64 a1_0, .int .i64 a1_1, .int .i64 a1_2] 36 (0, 0)) (bT aa.out) k_ hk)); (case aO => exact (rT ae.out)); (case aS => exact (below_size (eT HB.out))); (case aL => have := LMc24.out; omega); intro bI w27 ho hb hg hat; rw [← Ny267.out] at ho; replace aa := am (blk_grown (g := ad) (o := .cells #[.int .i64 a1_0, .int .i64 a1_1, .int .i64 a1_2] 36 (0, 0)) (bT aa.out) hg (Kd.R_away ae.out (fun _ hk => hk))); replace HB := am (hb); have bp := am (ho); clear ae ho hb hg hat))
            go_roundg k3
            case measure => have := HK1.out; have := be.out; have := HK3.out; omega
            case rel => exact ⟨(bo), (wrap64 (ac + 1)), (by first | rfl | (simp; done) | (simp [*]; done)), H', ⟨by have := HK1.out; have := be.out; have := HK3.out; omega⟩, ⟨rT bp.out⟩, ⟨bT aa.out⟩, ⟨eT HB.out⟩⟩
           ·rw [if_neg c24] at H
            exact absurd H (by simp)
          ·replace c23 := Bool.eq_false_iff.mpr c23
           subst c23
           have H1 : (graftwoodref11_With.l1 k3 l0 ax (wrap64 (ac + 1)) a1_0 a1_1 a1_2) = some r := by rw [if_neg (show ¬ (false = true) by decide)] at H; exact H
           clear H
           have H := H1
           clear H1
           have H' := Aside0.mk H
           clear H
           try go_wp2
           replace ae := am (Kd.R_drew ae.out)
           replace aa := am (blk_drew aa.out)
           replace HB := am (below_drew1 HB.out)
           have p264 : 0 ≤ (ac : Int) := of_decide_eq_true (by first | (with_reducible assumption) | assumption)
           have q264 : ac < (l0.length : Int) := of_decide_eq_true (by first | (with_reducible assumption) | assumption)
           obtain ⟨ad264, e264, ao, ap, aq⟩ := at_T36 HR0.out ac p264 q264
           have hw264_2 := aq
           have hw264_1 := ap
           have hw264_0 := ao
           cases e264
           replace ao := (HB.out.cell (World.block_lt_of_cell? w _ ao)).trans ao
           replace ap := (HB.out.cell (World.block_lt_of_cell? w _ ap)).trans ap
           replace aq := (HB.out.cell (World.block_lt_of_cell? w _ aq)).trans aq
           replace p264 := eq_true p264
           replace q264 := eq_true q264
           refine start_ (n := 6) (S := fun w' => w'.cell? ⟨ad, 0, none⟩ = some (.int .i64 a1_0) ∧ w'.cell? ⟨ad, 1, none⟩ = some (.int .i64 a1_1) ∧ w'.cell? ⟨ad, 2, none⟩ = some (.int .i64 a1_2) ∧ w'.cell? (ad264.add ((ac).toNat * 3)) = some (.int .i64 ((rd_T36 l0 ac).f0)) ∧ w'.cell? ⟨(ad264.add ((ac).toNat * 3)).block, (ad264.add ((ac).toNat * 3)).off + 1, none⟩ = some (.int .i64 ((rd_T36 l0 ac).f1)) ∧ w'.cell? ⟨(ad264.add ((ac).toNat * 3)).block, (ad264.add ((ac).toNat * 3)).off + 2, none⟩ = some (.int .i64 ((rd_T36 l0 ac).f2))) (ds := []) (bA 6 0) (by kernel_rfl) rfl (by kernel_rfl) ⟨cT aa 0, cT aa 1, cT aa 2, ((HB.out.cell (World.block_lt_of_cell? w _ hw264_0)).trans hw264_0), ((HB.out.cell (World.block_lt_of_cell? w _ hw264_1)).trans hw264_1), ((HB.out.cell (World.block_lt_of_cell? w _ hw264_2)).trans hw264_2)⟩ (fun hHeld => ?_)
           generalize wr.drew = w28 at ae aa HB ao ap aq hHeld ⊢
           refine pure_ (i := 1) (N := some 41) (v := ?_) (a' := ?_) (bA 6 2) rfl rfl (by kernel_rfl) (fun _ _ _ h => h) (Or.inl ⟨by rfl, ?_⟩) ?_ ?_
           rotate_left
           ·intro w'
            go_simp
            with_reducible rfl
           rotate_left
           ·simp only [pS]
            rfl
           refine pure_ (i := 2) (N := some 42) (v := ?_) (a' := ?_) (bA 6 6) rfl rfl (by kernel_rfl) (fun _ _ _ h => h) (Or.inl ⟨by rfl, ?_⟩) ?_ ?_
           rotate_left
           ·intro w'
            go_simp
            with_reducible rfl
           rotate_left
           ·simp only [pS]
            rfl
           refine pure_ (i := 3) (N := some 43) (v := ?_) (a' := ?_) (bA 6 14) rfl rfl (by kernel_rfl) (fun _ _ _ h => h) (Or.inl ⟨by rfl, ?_⟩) ?_ ?_
           rotate_left
           ·intro w'
            go_simp
            with_reducible rfl
           rotate_left
           ·simp only [pS]
            rfl
           refine take_ (i := 0) (N := some 40) (v := ?_) (a' := ?_) (bA 6 15) rfl rfl (by kernel_rfl) (fun _ _ _ h => h) (Or.inl ⟨by rfl, ?_⟩) hHeld ?_ ?_
           rotate_left
           ·rintro w' ⟨s0, s1, s2, s3, s4, s5⟩
            go_simp
            with_reducible rfl
           rotate_left
           ·simp only [pS]
            rfl
           refine take_ (i := 4) (N := some 44) (v := ?_) (a' := ?_) (bA 6 31) rfl rfl (by kernel_rfl) (fun _ _ _ h => h) (Or.inl ⟨by rfl, ?_⟩) hHeld ?_ ?_
           rotate_left
           ·rintro w' ⟨s0, s1, s2, s3, s4, s5⟩
            go_simp
            with_reducible rfl
           rotate_left
           ·simp only [pS]
            rfl
           refine one_ (i := 5) (N := some 45) (bA 6 63) rfl rfl (by kernel_rfl) (by decide) (fun K hK => ?_)
           refine gS Try.func39 #[.agg #[.int .i64 a1_0, .int .i64 a1_1, .int .i64 a1_2], .agg #[.int .i64 ((rd_T36 l0 ac).f0), .int .i64 ((rd_T36 l0 ac).f1), .int .i64 ((rd_T36 l0 ac).f2)]] ?_
           with_reducible refine (graftwoodref11_Less.calls a1_0 a1_1 a1_2 ((rd_T36 l0 ac).f0) ((rd_T36 l0 ac).f1) ((rd_T36 l0 ac).f2) false _ A22.out).mono ?_
           rintro e w29 ⟨rfl, hb⟩
           refine ⟨_, rfl, ?_⟩
           replace ae := am (rB ae.out hb)
           replace aa := am (bB aa.out hb)
           replace HB := am (sT HB.out hb)
           (try clear hb)
           (try clear hb2)
           (try clear hk)
           (try clear hi)
           refine hK.out _ _ ⟨cT aa 0, cT aa 1, cT aa 2, ((HB.out.cell (World.block_lt_of_cell? w _ hw264_0)).trans hw264_0), ((HB.out.cell (World.block_lt_of_cell? w _ hw264_1)).trans hw264_1), ((HB.out.cell (World.block_lt_of_cell? w _ hw264_2)).trans hw264_2)⟩ (fun hHeld => ?_)
           clear hK K
           refine mN 45 ?_
           refine done_ (by kernel_rfl) ?_
           try go_wp2
           go_roundg k3
           case measure => have := HK1.out; have := be.out; have := HK3.out; omega
           case rel => exact ⟨(ax), (wrap64 (ac + 1)), (by first | rfl | (simp; done) | (simp [*]; done)), H', ⟨by have := HK1.out; have := be.out; have := HK3.out; omega⟩, ⟨rT ae.out⟩, ⟨bT aa.out⟩, ⟨eT HB.out⟩⟩
         ·rw [if_neg c21] at H
          exact absurd H (by simp)
        ·rw [if_neg c20] at H
         have bm : decide (ac < (l0.length : Int)) = false := decide_eq_false c20
         clear c20
         obtain rfl := Option.some.inj H
         go_wp2
         go_ret
         exact ⟨_, by first | rfl | (simp [errW_none, errW_some] <;> rfl) | (simp [*, errW_none, errW_some] <;> rfl), by (with_reducible repeat (first | apply Kd.R_alloc | apply Kd.R_drewN | apply Kd.R_drew)); exact Kd.R_mono ae.out (fun _ hk => trivial), eT HB.out⟩

/-! ### graftwoodref15_Minus: function 19 -/
def graftwoodref15_Minus.l0 : Nat → List Int → List Int → List Int → Int → Option (List Int)
 | 0, _, _, _, _ => none
 | k + 1, x0, x1, x5, x6 => if x6 < (x0.length : Int) then (if 0 ≤ x6 then ((graftwoodref11_Has.f k x1 (rd x0 x6)).bind fun bf => (if bf = true then (graftwoodref15_Minus.l0 k x0 x1 x5 (wrap64 (x6 + 1))) else (if x5.length < 17592186044416 then (graftwoodref15_Minus.l0 k x0 x1 (x5 ++ [rd x0 x6]) (wrap64 (x6 + 1))) else (none)))) else (none)) else (some x5)
def graftwoodref15_Minus.f (k : Nat) (l0 : List Int) (l1 : List Int) : Option (List Int) := graftwoodref15_Minus.l0 k l0 l1 ([] : List Int) 0
theorem graftwoodref15_Minus.mono_l : ∀ k, (∀ y0 y1 y2 y3, LeO (graftwoodref15_Minus.l0 k y0 y1 y2 y3) (graftwoodref15_Minus.l0 (k + 1) y0 y1 y2 y3))
 | 0 => fun _ _ _ _ r h => by simp [graftwoodref15_Minus.l0] at h
 | k + 1 => by
  have ih0 := graftwoodref15_Minus.mono_l k
  ·intro y0 y1 y2 y3
   unfold graftwoodref15_Minus.l0
   repeat' first
   | (with_reducible exact ih0 _ _ _ _)
   | (with_reducible exact graftwoodref11_Has.mono _ _ _)
   | (with_reducible exact LeO.refl _)
   | (with_reducible exact LeO.none _)
   | (with_reducible refine LeO.ite ?_ ?_)
   | (with_reducible refine LeO.bind ?_ (fun _ => ?_))
   | exact ih0 _ _ _ _
   | exact graftwoodref11_Has.mono _ _ _
   | exact LeO.none _
   | refine LeO.ite ?_ ?_
   | refine LeO.bind ?_ (fun _ => ?_)
theorem graftwoodref15_Minus.mono : ∀ a0 a1 k, LeO (graftwoodref15_Minus.f k a0 a1) (graftwoodref15_Minus.f (k + 1) a0 a1) := by
 intro a0 a1 k
 have ih0 := graftwoodref15_Minus.mono_l k
 unfold graftwoodref15_Minus.f
 repeat' first
   | (with_reducible exact ih0 _ _ _ _)
   | (with_reducible exact graftwoodref11_Has.mono _ _ _)
   | (with_reducible exact LeO.refl _)
   | (with_reducible exact LeO.none _)
   | (with_reducible refine LeO.ite ?_ ?_)
   | (with_reducible refine LeO.bind ?_ (fun _ => ?_))
   | exact ih0 _ _ _ _
   | exact graftwoodref11_Has.mono _ _ _
   | exact LeO.none _
   | refine LeO.ite ?_ ?_
   | refine LeO.bind ?_ (fun _ => ?_)
set_option maxHeartbeats 8000000 in
set_option maxRecDepth 100000 in
theorem graftwoodref15_Minus.calls (k : Nat) (A0 : Option Addr) (c0 : Nat) (l0 : List Int) (A1 : Option Addr) (c1 : Nat) (l1 : List Int) (r : List Int) (w : World) (hr0 : Kd.C (Kd.int .i64) w A0 l0.length l0) (hc0 : l0.length ≤ c0) (hr1 : Kd.C (Kd.int .i64) w A1 l1.length l1) (hc1 : l1.length ≤ c1) (h : graftwoodref15_Minus.f k l0 l1 = some r) :
  Calls Try.prog 19 #[.slice A0 l0.length c0, .slice A1 l1.length c1] w fun e w' => ∃ v0_ : Value, e = .returned (v0_) ∧ Kd.R (Kd.int .i64) 3 w' w.heap.size (fun _ => True) v0_ r ∧ Below w.heap.size w w' := by
 have HR0 := Aside0.mk hr0
 have HC0 := Aside0.mk hc0
 clear hr0 hc0
 have HR1 := Aside0.mk hr1
 have HC1 := Aside0.mk hc1
 clear hr1 hc1
 have HB := am (Below.refl w.heap.size w)
 have H : (graftwoodref15_Minus.l0 k l0 l1 ([] : List Int) 0) = some r := h
 clear h
 have H' := Aside0.mk H
 clear H
 go_enter Try.func19, Try.ntmps19
 go_wp2
 go_loopg [5, 6] k (fun kq v5 v6 w' => ∃ (an : List Int) (ab : Int), v6 = .int .i64 ab ∧ Aside0 (graftwoodref15_Minus.l0 kq l0 l1 an ab = some r) ∧ Aside0 (kq ≤ k) ∧ Aside0 (Kd.R (Kd.int .i64) 3 w' w.heap.size (fun _ => True) v5 an) ∧ Aside0 (Below w.heap.size w w'))
 case atStart => exact ⟨(([] : List Int)), (0), (by first | rfl | (simp; done) | (simp [*]; done)), H', ⟨Nat.le_refl _⟩, ⟨by first | exact Kd.R_nil _ _ _ _ _ | exact Kd.N_nil _ _ _ _ _ | exact Kd.V_nil _ _ _ _ _ | exact Kd.Q_nil _ _ _ _ _ | exact Kd.S_nil _ _ _ _ _⟩, ⟨eT HB.out⟩⟩
 case round =>
  clear H'
  try clear c1
  try clear p2
  obtain ⟨an, ab, rfl, HA, HK1, ae, HB⟩ := hrel
  cases gk with
  | zero => exact absurd HA.out (by simp [graftwoodref15_Minus.l0])
  | succ k1 =>
   have H := HA.out
   clear HA
   simp only [graftwoodref15_Minus.l0] at H
   by_cases c3 : ab < (l0.length : Int)
   ·rw [if_pos c3] at H
    have bC : decide (ab < (l0.length : Int)) = true := decide_eq_true c3
    clear c3
    by_cases c4 : 0 ≤ ab
    ·rw [if_pos c4] at H
     have a9 : decide (0 ≤ ab) = true := decide_eq_true c4
     clear c4
     replace H := Option.bind_eq_some_iff.mp H
     obtain ⟨bf, A50, H⟩ := H
     replace H : (if bf = true then (graftwoodref15_Minus.l0 k1 l0 l1 an (wrap64 (ab + 1))) else (if an.length < 17592186044416 then (graftwoodref15_Minus.l0 k1 l0 l1 (an ++ [rd l0 ab]) (wrap64 (ab + 1))) else (none))) = some r := H
     have A5 := Aside0.mk A50
     clear A50
     by_cases c6 : bf = true
     ·subst c6
      have H1 : (graftwoodref15_Minus.l0 k1 l0 l1 an (wrap64 (ab + 1))) = some r := by rw [if_pos rfl] at H; exact H
      clear H
      have H := H1
      clear H1
      have H' := Aside0.mk H
      clear H
      have p270 : 0 ≤ (ab : Int) := of_decide_eq_true (by first | (with_reducible assumption) | assumption)
      have q270 : ab < (l0.length : Int) := of_decide_eq_true (by first | (with_reducible assumption) | assumption)
      obtain ⟨ad270, e270, ar⟩ := Kd.at_int HR0.out ab p270 q270
      cases e270
      replace ar := (HB.out.cell (World.block_lt_of_cell? w _ ar)).trans ar
      replace p270 := eq_true p270
      replace q270 := eq_true q270
      go_wp2_with (first | ((with_reducible refine gate_callee (f := 25) rfl ?_); refine gL (some 18) Try.func25 #[.slice A1 l1.length c1, .int .i64 (rd l0 ab)] ?_; (with_reducible refine (graftwoodref11_Has.calls k1 _ _ l1 (rd l0 ab) true _ ?side1 ?side2 A5.out).mono ?_); (case side1 => exact cW (Kd.C_below HR1.out HB.out)); (case side2 => exact HC1.out); rintro e w' ⟨rfl, ⟨nd, rfl⟩⟩; refine ⟨_, rfl, ?_⟩))
      go_roundg k1
      case measure => have := HK1.out; omega
      case rel => exact ⟨(an), (wrap64 (ab + 1)), (by first | rfl | (simp; done) | (simp [*]; done)), H', ⟨by have := HK1.out; omega⟩, ⟨rT ae.out⟩, ⟨eT HB.out⟩⟩
     ·replace c6 := Bool.eq_false_iff.mpr c6
      subst c6
      have H1 : (if an.length < 17592186044416 then (graftwoodref15_Minus.l0 k1 l0 l1 (an ++ [rd l0 ab]) (wrap64 (ab + 1))) else (none)) = some r := by rw [if_neg (show ¬ (false = true) by decide)] at H; exact H
      clear H
      have H := H1
      clear H1
      by_cases c7 : an.length < 17592186044416
      ·rw [if_pos c7] at H
       have LMc7 := Aside0.mk c7
       clear c7
       obtain ⟨bq, aI⟩ : ∃ y_ : List Int, y_ = (an ++ [rd l0 ab]) := ⟨_, rfl⟩
       replace H : (graftwoodref15_Minus.l0 k1 l0 l1 bq (wrap64 (ab + 1))) = some r := by first | (rw [aI]; with_reducible exact H) | (have H2_ := (Option.bind_some _ _).symm.trans H; rw [aI]; with_reducible exact H2_) | (have H2_ := (Option.bind_some _ _).symm.trans H; with_reducible exact H2_) | with_reducible exact H | (rw [aI]; exact H) | exact H
       have Ny273 := Aside0.mk aI
       clear aI
       have H' := Aside0.mk H
       clear H
       have p270 : 0 ≤ (ab : Int) := of_decide_eq_true (by first | (with_reducible assumption) | assumption)
       have q270 : ab < (l0.length : Int) := of_decide_eq_true (by first | (with_reducible assumption) | assumption)
       obtain ⟨ad270, e270, ar⟩ := Kd.at_int HR0.out ab p270 q270
       cases e270
       replace ar := (HB.out.cell (World.block_lt_of_cell? w _ ar)).trans ar
       replace p270 := eq_true p270
       replace q270 := eq_true q270
       go_wp2_with (first | ((with_reducible refine gate_callee (f := 25) rfl ?_); refine gL (some 18) Try.func25 #[.slice A1 l1.length c1, .int .i64 (rd l0 ab)] ?_; (with_reducible refine (graftwoodref11_Has.calls k1 _ _ l1 (rd l0 ab) false _ ?side1 ?side2 A5.out).mono ?_); (case side1 => exact cW (Kd.C_below HR1.out HB.out)); (case side2 => exact HC1.out); rintro e w' ⟨rfl, ⟨nd, rfl⟩⟩; refine ⟨_, rfl, ?_⟩; have p272 : 0 ≤ (ab : Int) := of_decide_eq_true (by first | (with_reducible assumption) | assumption); have q272 : ab < (l0.length : Int) := of_decide_eq_true (by first | (with_reducible assumption) | assumption); obtain ⟨ad272, e272, aD⟩ := Kd.at_int HR0.out ab p272 q272; obtain rfl : ad270 = ad272 := (by injection e272); replace aD := (HB.out.cell (World.block_lt_of_cell? w _ aD)).trans aD; replace p272 := eq_true p272; replace q272 := eq_true q272) | ((with_reducible refine gate_builtin (b := .append) (xs := #[.tmp 20, .tmp 25]) rfl ?_); at_builtin; refine Kd.R_append (Kd.int .i64) (w0 := w) w.heap.size rfl (.tmp 20) (.tmp 25) 23 3 (.int .i64 0) 8 rfl Try.underlying23 info3 rfl (by decide) (by omega) u5 an (rd l0 ab) [.int .i64 (rd l0 ab)] (fun _ => True) (fun _ => False) rfl rfl ?aP (fun _ hk => hk.elim) ?aF ?aO ?aB ?aS ?aL ?_; (case aP => exact rfl); (case aB => exact (eT HB.out)); (case aF => exact (fun _ _ => trivial)); (case aO => exact (rT ae.out)); (case aS => exact (below_size (eT HB.out))); (case aL => have := LMc7.out; omega); intro bJ w8 ho hb hg hat; rw [← Ny273.out] at ho; replace HB := am (hb); have br := am (ho); clear ae ho hb hg hat))
       go_roundg k1
       case measure => have := HK1.out; omega
       case rel => exact ⟨(bq), (wrap64 (ab + 1)), (by first | rfl | (simp; done) | (simp [*]; done)), H', ⟨by have := HK1.out; omega⟩, ⟨rT br.out⟩, ⟨eT HB.out⟩⟩
      ·rw [if_neg c7] at H
       exact absurd H (by simp)
    ·rw [if_neg c4] at H
     exact absurd H (by simp)
   ·rw [if_neg c3] at H
    have bC : decide (ab < (l0.length : Int)) = false := decide_eq_false c3
    clear c3
    obtain rfl := Option.some.inj H
    go_wp2
    go_ret
    exact ⟨_, by first | rfl | (simp [errW_none, errW_some] <;> rfl) | (simp [*, errW_none, errW_some] <;> rfl), by (with_reducible repeat (first | apply Kd.R_alloc | apply Kd.R_drewN | apply Kd.R_drew)); exact ae.out, eT HB.out⟩

end Go.Proofs.Ytpiamehededilaa.P
