-- Written by this project's own program (wip/tools/hp.py), driving the kit's print; hand texts among it. Not trusted: Lean checks it.
-- half the indentation
import Derived.Test.YtpiamehededilaaThen
import Derived.Test.YtpiamehededilaaP0
import Derived.Test.YtpiamehededilaaP10
namespace Go.Proofs.Ytpiamehededilaa.P
open Go.RowKit Go.Proofs.YtpiamehededilaaW.PrintWords Go.Proofs.YtpiamehededilaaW.PrintLast Go.Proofs.YtpiamehededilaaW.PrintMore
attribute [local go_sem] max2_int min2_int max_two min_two max_three min_three max_four min_four   -- for this text's walks alone
set_option linter.unusedVariables false
set_option linter.unusedSimpArgs false

/-! ### graftwoodref11_May: function 28 -/
def graftwoodref11_May.l0 : Nat → List (S36) → Int → Option (Bool)
 | 0, _, _ => none
 | k + 1, x0, x3 => if x3 < (x0.length : Int) then (if 0 ≤ x3 then (if ((rd_T36 x0 x3).f0) < (-1) then (some false) else (if ((rd_T36 x0 x3).f1) < 0 then (some false) else (if ((rd_T36 x0 x3).f2) < 1 then (some false) else (if ((rd_T36 x0 x3).f2) > 1099511627776 then (some false) else (if x3 > 0 then (if 0 ≤ (wrap64 (x3 - 1)) then (if (wrap64 (x3 - 1)) < (x0.length : Int) then ((graftwoodref11_Less.f ((rd_T36 x0 (wrap64 (x3 - 1))).f0) ((rd_T36 x0 (wrap64 (x3 - 1))).f1) ((rd_T36 x0 (wrap64 (x3 - 1))).f2) ((rd_T36 x0 x3).f0) ((rd_T36 x0 x3).f1) ((rd_T36 x0 x3).f2)).bind fun ay => (if ay = true then (graftwoodref11_May.l0 k x0 (wrap64 (x3 + 1))) else (some false))) else (none)) else (none)) else (graftwoodref11_May.l0 k x0 (wrap64 (x3 + 1)))))))) else (none)) else (some true)
def graftwoodref11_May.f (k : Nat) (l0 : List (S36)) : Option (Bool) := graftwoodref11_May.l0 k l0 0
theorem graftwoodref11_May.mono_l : ∀ k, (∀ y0 y1, LeO (graftwoodref11_May.l0 k y0 y1) (graftwoodref11_May.l0 (k + 1) y0 y1))
 | 0 => fun _ _ r h => by simp [graftwoodref11_May.l0] at h
 | k + 1 => by
  have ih0 := graftwoodref11_May.mono_l k
  ·intro y0 y1
   unfold graftwoodref11_May.l0
   repeat' first
   | (with_reducible exact ih0 _ _)
   | (with_reducible exact LeO.refl _)
   | (with_reducible exact LeO.none _)
   | (with_reducible refine LeO.ite ?_ ?_)
   | (with_reducible refine LeO.bind ?_ (fun _ => ?_))
   | exact ih0 _ _
   | exact LeO.none _
   | refine LeO.ite ?_ ?_
   | refine LeO.bind ?_ (fun _ => ?_)
theorem graftwoodref11_May.mono : ∀ a0 k, LeO (graftwoodref11_May.f k a0) (graftwoodref11_May.f (k + 1) a0) := by
 intro a0 k
 have ih0 := graftwoodref11_May.mono_l k
 unfold graftwoodref11_May.f
 repeat' first
   | (with_reducible exact ih0 _ _)
   | (with_reducible exact LeO.refl _)
   | (with_reducible exact LeO.none _)
   | (with_reducible refine LeO.ite ?_ ?_)
   | (with_reducible refine LeO.bind ?_ (fun _ => ?_))
   | exact ih0 _ _
   | exact LeO.none _
   | refine LeO.ite ?_ ?_
   | refine LeO.bind ?_ (fun _ => ?_)
def graftwoodref11_May.T4 : Bool × List (List Nat × List Nat) := (true, [([], []), ([], []), ([0, 1], [0, 1]), ([2], [2]), ([3], [3]), ([4], [4]), ([5], [5]), ([6], [6]), ([6], [6]), ([7, 8, 6], [6, 7, 8]), ([9, 6], [6, 9]), ([10, 6], [6, 10]), ([11, 6], [6, 11]), ([6, 12], [6, 12]), ([13, 6], [13]), ([14], [14]), ([14], [14]), ([15, 16, 14], [14, 15, 16]), ([17, 14], [14, 17]), ([18, 14], [14, 18]), ([19, 14], [14, 19]), ([14, 20], [14, 20]), ([21, 14], [21]), ([22], [22]), ([22], [22]), ([23, 24, 22], [22, 23, 24]), ([25, 22], [22, 25]), ([26, 22], [22, 26]), ([27, 22], [22, 27]), ([22, 28], [22, 28]), ([29, 22], [29]), ([30], [30]), ([31, 30], [30, 31]), ([32, 30, 30], [30, 32]), ([33], [33]), ([33], [33]), ([35, 33], [33, 35]), ([34, 36, 33], [33, 34, 36]), ([37, 33], [33, 37]), ([33], [33]), ([33], [33]), ([39, 40, 33], [33, 39, 40]), ([41, 33], [33, 41]), ([38, 42, 33, 33], [33, 38, 42]), ([43, 33], [33, 43]), ([33, 44, 30], [30, 33, 44]), ([30, 45], [30, 45])])
def graftwoodref11_May.B4 : List Nat := [0, 0, 3, 7, 15, 31, 63, 127, 127, 511, 1023, 2047, 4095, 8191, 16383, 32767, 32767, 131071, 262143, 524287, 1048575, 2097151, 4194303, 8388607, 8388607, 33554431, 67108863, 134217727, 268435455, 536870911, 1073741823, 2147483647, 4294967295, 8589934591, 17179869183, 17179869183, 51539607551, 137438953471, 274877906943, 17179869183, 17179869183, 1666447310847, 3865470566399, 8796093022207, 17592186044415, 35184372088831, 70368744177663]
theorem graftwoodref11_May.tab4 : rtab .any (opsOf Try.f28 4) = graftwoodref11_May.T4 := by kernel_rfl
theorem graftwoodref11_May.bits4 : waitsOk graftwoodref11_May.T4.2 graftwoodref11_May.B4 = true := by kernel_rfl
set_option maxHeartbeats 8000000 in
set_option maxRecDepth 100000 in
theorem graftwoodref11_May.calls (k : Nat) (A0 : Option Addr) (c0 : Nat) (l0 : List (S36)) (r : Bool) (w : World) (hr0 : Kd.C k36 w A0 l0.length l0) (hc0 : l0.length ≤ c0) (h : graftwoodref11_May.f k l0 = some r) :
  Calls Try.prog 28 #[.slice A0 l0.length c0] w fun e w' => e = .returned (.bool r) ∧ Below w.heap.size w w' := by
 have hu36 := Try.underlying36
 have HR0 := Aside0.mk hr0
 have HC0 := Aside0.mk hc0
 clear hr0 hc0
 have HB := am (Below.refl w.heap.size w)
 have H : (graftwoodref11_May.l0 k l0 0) = some r := h
 clear h
 have H' := Aside0.mk H
 clear H
 go_enter Try.func28, Try.ntmps28
 go_wp2
 go_loopg [3] k (fun kq v3 w' => ∃ (aa : Int), v3 = .int .i64 aa ∧ Aside0 (graftwoodref11_May.l0 kq l0 aa = some r) ∧ Aside0 (kq ≤ k) ∧ Aside0 (Below w.heap.size w w'))
 case atStart => exact ⟨(0), (by first | rfl | (simp; done) | (simp [*]; done)), H', ⟨Nat.le_refl _⟩, ⟨eT HB.out⟩⟩
 case round =>
  clear H'
  obtain ⟨aa, rfl, HA, HK1, HB⟩ := hrel
  cases gk with
  | zero => exact absurd HA.out (by simp [graftwoodref11_May.l0])
  | succ k1 =>
   have H := HA.out
   clear HA
   simp only [graftwoodref11_May.l0] at H
   by_cases c2 : aa < (l0.length : Int)
   ·rw [if_pos c2] at H
    have aC : decide (aa < (l0.length : Int)) = true := decide_eq_true c2
    clear c2
    by_cases c3 : 0 ≤ aa
    ·rw [if_pos c3] at H
     have aJ : decide (0 ≤ aa) = true := decide_eq_true c3
     clear c3
     by_cases c4 : ((rd_T36 l0 aa).f0) < (-1)
     ·rw [if_pos c4] at H
      have aD : decide (((rd_T36 l0 aa).f0) < (-1)) = true := decide_eq_true c4
      clear c4
      obtain rfl := Option.some.inj H
      try go_wp2
      replace HB := am (below_drew1 HB.out)
      have p190 : 0 ≤ (aa : Int) := of_decide_eq_true (by first | (with_reducible assumption) | assumption)
      have q190 : aa < (l0.length : Int) := of_decide_eq_true (by first | (with_reducible assumption) | assumption)
      obtain ⟨ad190, e190, ab, ac, ad⟩ := at_T36 HR0.out aa p190 q190
      have hw190_2 := ad
      have hw190_1 := ac
      have hw190_0 := ab
      cases e190
      replace ab := (HB.out.cell (World.block_lt_of_cell? w _ ab)).trans ab
      replace ac := (HB.out.cell (World.block_lt_of_cell? w _ ac)).trans ac
      replace ad := (HB.out.cell (World.block_lt_of_cell? w _ ad)).trans ad
      replace p190 := eq_true p190
      replace q190 := eq_true q190
      refine start_ (n := 47) (S := fun w' => w'.cell? (ad190.add ((aa).toNat * 3)) = some (.int .i64 ((rd_T36 l0 aa).f0)) ∧ w'.cell? ⟨(ad190.add ((aa).toNat * 3)).block, (ad190.add ((aa).toNat * 3)).off + 1, none⟩ = some (.int .i64 ((rd_T36 l0 aa).f1)) ∧ w'.cell? ⟨(ad190.add ((aa).toNat * 3)).block, (ad190.add ((aa).toNat * 3)).off + 2, none⟩ = some (.int .i64 ((rd_T36 l0 aa).f2))) (ds := []) (bA 47 0) (by kernel_rfl) rfl (by kernel_rfl) ⟨((HB.out.cell (World.block_lt_of_cell? w _ hw190_0)).trans hw190_0), ((HB.out.cell (World.block_lt_of_cell? w _ hw190_1)).trans hw190_1), ((HB.out.cell (World.block_lt_of_cell? w _ hw190_2)).trans hw190_2)⟩ (fun hHeld => ?_); refine with_tabW graftwoodref11_May.tab4 graftwoodref11_May.bits4 (fun HT_ HW_ => ?_)
      generalize wr.drew = w5 at HB ab ac ad hHeld ⊢
      refine pT 0 10 (bA 47 1) HT_.out ?_
      refine pT 1 11 (bA 47 3) HT_.out ?_
      refine pT 2 12 (bA 47 7) HT_.out ?_
      refine pT 3 13 (bA 47 15) HT_.out ?_
      refine tT 4 14 (bA 47 31) HT_.out HW_.out hHeld ?_ (hy := by rintro w' ⟨s0, s1, s2⟩; go_simp; with_reducible rfl)
      refine pT 5 15 (bA 47 63) HT_.out ?_
      refine pT 6 16 (bA 47 127) HT_.out ?_
      refine pU 7 17 (bA 47 255) HT_.out ?_
      refine pU 8 18 (bA 47 511) HT_.out ?_
      refine pU 9 19 (bA 47 1023) HT_.out ?_
      refine pU 10 20 (bA 47 2047) HT_.out ?_
      refine pU 11 21 (bA 47 4095) HT_.out ?_
      refine pU 12 22 (bA 47 8191) HT_.out ?_
      refine pT 13 23 (bA 47 16383) HT_.out ?_
      refine pT 14 24 (bA 47 32767) HT_.out ?_
      refine pU 15 25 (bA 47 65535) HT_.out ?_
      refine pU 16 26 (bA 47 131071) HT_.out ?_
      refine pU 17 27 (bA 47 262143) HT_.out ?_
      refine pU 18 28 (bA 47 524287) HT_.out ?_
      refine pU 19 29 (bA 47 1048575) HT_.out ?_
      refine pU 20 30 (bA 47 2097151) HT_.out ?_
      refine pT 21 31 (bA 47 4194303) HT_.out ?_
      refine pT 22 32 (bA 47 8388607) HT_.out ?_
      refine pU 23 33 (bA 47 16777215) HT_.out ?_
      refine pU 24 34 (bA 47 33554431) HT_.out ?_
      refine pU 25 35 (bA 47 67108863) HT_.out ?_
      refine pU 26 36 (bA 47 134217727) HT_.out ?_
      refine pU 27 37 (bA 47 268435455) HT_.out ?_
      refine pU 28 38 (bA 47 536870911) HT_.out ?_
      refine pT 29 39 (bA 47 1073741823) HT_.out ?_
      refine pT 30 40 (bA 47 2147483647) HT_.out ?_
      refine pU 31 41 (bA 47 4294967295) HT_.out ?_
      refine pU 32 42 (bA 47 8589934591) HT_.out ?_
      refine pU 33 43 (bA 47 17179869183) HT_.out ?_
      refine pU 34 44 (bA 47 34359738367) HT_.out ?_
      refine pU 35 45 (bA 47 68719476735) HT_.out ?_
      refine pU 36 46 (bA 47 137438953471) HT_.out ?_
      refine pU 37 47 (bA 47 274877906943) HT_.out ?_
      refine pU 38 48 (bA 47 549755813887) HT_.out ?_
      refine pU 39 49 (bA 47 1099511627775) HT_.out ?_
      refine pU 40 50 (bA 47 2199023255551) HT_.out ?_
      refine pU 41 51 (bA 47 4398046511103) HT_.out ?_
      refine pU 42 52 (bA 47 8796093022207) HT_.out ?_
      refine pU 43 53 (bA 47 17592186044415) HT_.out ?_
      refine pU 44 54 (bA 47 35184372088831) HT_.out ?_
      refine pU 45 55 (bA 47 70368744177663) HT_.out ?_
      refine pT 46 56 (bA 47 140737488355327) HT_.out ?_
      refine done_ (done_of HT_.out (by kernel_rfl)) ?_
      try go_wp2
      go_ret
      exact ⟨by first | rfl | (simp [errW_none, errW_some] <;> rfl) | (simp [*, errW_none, errW_some] <;> rfl), eT HB.out⟩
     ·rw [if_neg c4] at H
      have aD : decide (((rd_T36 l0 aa).f0) < (-1)) = false := decide_eq_false c4
      clear c4
      by_cases c6 : ((rd_T36 l0 aa).f1) < 0
      ·rw [if_pos c6] at H
       have aE : decide (((rd_T36 l0 aa).f1) < 0) = true := decide_eq_true c6
       clear c6
       obtain rfl := Option.some.inj H
       try go_wp2
       replace HB := am (below_drew1 HB.out)
       have p190 : 0 ≤ (aa : Int) := of_decide_eq_true (by first | (with_reducible assumption) | assumption)
       have q190 : aa < (l0.length : Int) := of_decide_eq_true (by first | (with_reducible assumption) | assumption)
       obtain ⟨ad190, e190, ab, ac, ad⟩ := at_T36 HR0.out aa p190 q190
       have hw190_2 := ad
       have hw190_1 := ac
       have hw190_0 := ab
       cases e190
       replace ab := (HB.out.cell (World.block_lt_of_cell? w _ ab)).trans ab
       replace ac := (HB.out.cell (World.block_lt_of_cell? w _ ac)).trans ac
       replace ad := (HB.out.cell (World.block_lt_of_cell? w _ ad)).trans ad
       replace p190 := eq_true p190
       replace q190 := eq_true q190
       have p191 : 0 ≤ (aa : Int) := of_decide_eq_true (by first | (with_reducible assumption) | assumption)
       have q191 : aa < (l0.length : Int) := of_decide_eq_true (by first | (with_reducible assumption) | assumption)
       obtain ⟨ad191, e191, ae, af, ag⟩ := at_T36 HR0.out aa p191 q191
       have hw191_2 := ag
       have hw191_1 := af
       have hw191_0 := ae
       obtain rfl : ad190 = ad191 := (by injection e191)
       replace ae := (HB.out.cell (World.block_lt_of_cell? w _ ae)).trans ae
       replace af := (HB.out.cell (World.block_lt_of_cell? w _ af)).trans af
       replace ag := (HB.out.cell (World.block_lt_of_cell? w _ ag)).trans ag
       replace p191 := eq_true p191
       replace q191 := eq_true q191
       refine start_ (n := 47) (S := fun w' => w'.cell? (ad190.add ((aa).toNat * 3)) = some (.int .i64 ((rd_T36 l0 aa).f0)) ∧ w'.cell? ⟨(ad190.add ((aa).toNat * 3)).block, (ad190.add ((aa).toNat * 3)).off + 1, none⟩ = some (.int .i64 ((rd_T36 l0 aa).f1)) ∧ w'.cell? ⟨(ad190.add ((aa).toNat * 3)).block, (ad190.add ((aa).toNat * 3)).off + 2, none⟩ = some (.int .i64 ((rd_T36 l0 aa).f2)) ∧ w'.cell? (ad190.add ((aa).toNat * 3)) = some (.int .i64 ((rd_T36 l0 aa).f0)) ∧ w'.cell? ⟨(ad190.add ((aa).toNat * 3)).block, (ad190.add ((aa).toNat * 3)).off + 1, none⟩ = some (.int .i64 ((rd_T36 l0 aa).f1)) ∧ w'.cell? ⟨(ad190.add ((aa).toNat * 3)).block, (ad190.add ((aa).toNat * 3)).off + 2, none⟩ = some (.int .i64 ((rd_T36 l0 aa).f2))) (ds := []) (bA 47 0) (by kernel_rfl) rfl (by kernel_rfl) ⟨((HB.out.cell (World.block_lt_of_cell? w _ hw190_0)).trans hw190_0), ((HB.out.cell (World.block_lt_of_cell? w _ hw190_1)).trans hw190_1), ((HB.out.cell (World.block_lt_of_cell? w _ hw190_2)).trans hw190_2), ((HB.out.cell (World.block_lt_of_cell? w _ hw191_0)).trans hw191_0), ((HB.out.cell (World.block_lt_of_cell? w _ hw191_1)).trans hw191_1), ((HB.out.cell (World.block_lt_of_cell? w _ hw191_2)).trans hw191_2)⟩ (fun hHeld => ?_); refine with_tabW graftwoodref11_May.tab4 graftwoodref11_May.bits4 (fun HT_ HW_ => ?_)
       generalize wr.drew = w7 at HB ab ac ad ae af ag hHeld ⊢
       refine pT 0 10 (bA 47 1) HT_.out ?_
       refine pT 1 11 (bA 47 3) HT_.out ?_
       refine pT 2 12 (bA 47 7) HT_.out ?_
       refine pT 3 13 (bA 47 15) HT_.out ?_
       refine tT 4 14 (bA 47 31) HT_.out HW_.out hHeld ?_ (hy := by rintro w' ⟨s0, s1, s2, s3, s4, s5⟩; go_simp; with_reducible rfl)
       refine pT 5 15 (bA 47 63) HT_.out ?_
       refine pT 6 16 (bA 47 127) HT_.out ?_
       refine pT 7 17 (bA 47 255) HT_.out ?_
       refine pT 8 18 (bA 47 511) HT_.out ?_
       refine pT 9 19 (bA 47 1023) HT_.out ?_
       refine pT 10 20 (bA 47 2047) HT_.out ?_
       refine tT 11 21 (bA 47 4095) HT_.out HW_.out hHeld ?_ (hy := by rintro w' ⟨s0, s1, s2, s3, s4, s5⟩; go_simp; with_reducible rfl)
       refine pT 12 22 (bA 47 8191) HT_.out ?_
       refine pT 13 23 (bA 47 16383) HT_.out ?_
       refine pT 14 24 (bA 47 32767) HT_.out ?_
       refine pU 15 25 (bA 47 65535) HT_.out ?_
       refine pU 16 26 (bA 47 131071) HT_.out ?_
       refine pU 17 27 (bA 47 262143) HT_.out ?_
       refine pU 18 28 (bA 47 524287) HT_.out ?_
       refine pU 19 29 (bA 47 1048575) HT_.out ?_
       refine pU 20 30 (bA 47 2097151) HT_.out ?_
       refine pT 21 31 (bA 47 4194303) HT_.out ?_
       refine pT 22 32 (bA 47 8388607) HT_.out ?_
       refine pU 23 33 (bA 47 16777215) HT_.out ?_
       refine pU 24 34 (bA 47 33554431) HT_.out ?_
       refine pU 25 35 (bA 47 67108863) HT_.out ?_
       refine pU 26 36 (bA 47 134217727) HT_.out ?_
       refine pU 27 37 (bA 47 268435455) HT_.out ?_
       refine pU 28 38 (bA 47 536870911) HT_.out ?_
       refine pT 29 39 (bA 47 1073741823) HT_.out ?_
       refine pT 30 40 (bA 47 2147483647) HT_.out ?_
       refine pU 31 41 (bA 47 4294967295) HT_.out ?_
       refine pU 32 42 (bA 47 8589934591) HT_.out ?_
       refine pU 33 43 (bA 47 17179869183) HT_.out ?_
       refine pU 34 44 (bA 47 34359738367) HT_.out ?_
       refine pU 35 45 (bA 47 68719476735) HT_.out ?_
       refine pU 36 46 (bA 47 137438953471) HT_.out ?_
       refine pU 37 47 (bA 47 274877906943) HT_.out ?_
       refine pU 38 48 (bA 47 549755813887) HT_.out ?_
       refine pU 39 49 (bA 47 1099511627775) HT_.out ?_
       refine pU 40 50 (bA 47 2199023255551) HT_.out ?_
       refine pU 41 51 (bA 47 4398046511103) HT_.out ?_
       refine pU 42 52 (bA 47 8796093022207) HT_.out ?_
       refine pU 43 53 (bA 47 17592186044415) HT_.out ?_
       refine pU 44 54 (bA 47 35184372088831) HT_.out ?_
       refine pU 45 55 (bA 47 70368744177663) HT_.out ?_
       refine pT 46 56 (bA 47 140737488355327) HT_.out ?_
       refine done_ (done_of HT_.out (by kernel_rfl)) ?_
       try go_wp2
       go_ret
       exact ⟨by first | rfl | (simp [errW_none, errW_some] <;> rfl) | (simp [*, errW_none, errW_some] <;> rfl), eT HB.out⟩
      ·rw [if_neg c6] at H
       have aE : decide (((rd_T36 l0 aa).f1) < 0) = false := decide_eq_false c6
       clear c6
       by_cases c8 : ((rd_T36 l0 aa).f2) < 1
       ·rw [if_pos c8] at H
        have aF : decide (((rd_T36 l0 aa).f2) < 1) = true := decide_eq_true c8
        clear c8
        obtain rfl := Option.some.inj H
        try go_wp2
        replace HB := am (below_drew1 HB.out)
        have p190 : 0 ≤ (aa : Int) := of_decide_eq_true (by first | (with_reducible assumption) | assumption)
        have q190 : aa < (l0.length : Int) := of_decide_eq_true (by first | (with_reducible assumption) | assumption)
        obtain ⟨ad190, e190, ab, ac, ad⟩ := at_T36 HR0.out aa p190 q190
        have hw190_2 := ad
        have hw190_1 := ac
        have hw190_0 := ab
        cases e190
        replace ab := (HB.out.cell (World.block_lt_of_cell? w _ ab)).trans ab
        replace ac := (HB.out.cell (World.block_lt_of_cell? w _ ac)).trans ac
        replace ad := (HB.out.cell (World.block_lt_of_cell? w _ ad)).trans ad
        replace p190 := eq_true p190
        replace q190 := eq_true q190
        have p191 : 0 ≤ (aa : Int) := of_decide_eq_true (by first | (with_reducible assumption) | assumption)
        have q191 : aa < (l0.length : Int) := of_decide_eq_true (by first | (with_reducible assumption) | assumption)
        obtain ⟨ad191, e191, ae, af, ag⟩ := at_T36 HR0.out aa p191 q191
        have hw191_2 := ag
        have hw191_1 := af
        have hw191_0 := ae
        obtain rfl : ad190 = ad191 := (by injection e191)
        replace ae := (HB.out.cell (World.block_lt_of_cell? w _ ae)).trans ae
        replace af := (HB.out.cell (World.block_lt_of_cell? w _ af)).trans af
        replace ag := (HB.out.cell (World.block_lt_of_cell? w _ ag)).trans ag
        replace p191 := eq_true p191
        replace q191 := eq_true q191
        have p192 : 0 ≤ (aa : Int) := of_decide_eq_true (by first | (with_reducible assumption) | assumption)
        have q192 : aa < (l0.length : Int) := of_decide_eq_true (by first | (with_reducible assumption) | assumption)
        obtain ⟨ad192, e192, ah, ai, aj⟩ := at_T36 HR0.out aa p192 q192
        have hw192_2 := aj
        have hw192_1 := ai
        have hw192_0 := ah
        obtain rfl : ad190 = ad192 := (by injection e192)
        replace ah := (HB.out.cell (World.block_lt_of_cell? w _ ah)).trans ah
        replace ai := (HB.out.cell (World.block_lt_of_cell? w _ ai)).trans ai
        replace aj := (HB.out.cell (World.block_lt_of_cell? w _ aj)).trans aj
        replace p192 := eq_true p192
        replace q192 := eq_true q192
        refine start_ (n := 47) (S := fun w' => w'.cell? (ad190.add ((aa).toNat * 3)) = some (.int .i64 ((rd_T36 l0 aa).f0)) ∧ w'.cell? ⟨(ad190.add ((aa).toNat * 3)).block, (ad190.add ((aa).toNat * 3)).off + 1, none⟩ = some (.int .i64 ((rd_T36 l0 aa).f1)) ∧ w'.cell? ⟨(ad190.add ((aa).toNat * 3)).block, (ad190.add ((aa).toNat * 3)).off + 2, none⟩ = some (.int .i64 ((rd_T36 l0 aa).f2)) ∧ w'.cell? (ad190.add ((aa).toNat * 3)) = some (.int .i64 ((rd_T36 l0 aa).f0)) ∧ w'.cell? ⟨(ad190.add ((aa).toNat * 3)).block, (ad190.add ((aa).toNat * 3)).off + 1, none⟩ = some (.int .i64 ((rd_T36 l0 aa).f1)) ∧ w'.cell? ⟨(ad190.add ((aa).toNat * 3)).block, (ad190.add ((aa).toNat * 3)).off + 2, none⟩ = some (.int .i64 ((rd_T36 l0 aa).f2)) ∧ w'.cell? (ad190.add ((aa).toNat * 3)) = some (.int .i64 ((rd_T36 l0 aa).f0)) ∧ w'.cell? ⟨(ad190.add ((aa).toNat * 3)).block, (ad190.add ((aa).toNat * 3)).off + 1, none⟩ = some (.int .i64 ((rd_T36 l0 aa).f1)) ∧ w'.cell? ⟨(ad190.add ((aa).toNat * 3)).block, (ad190.add ((aa).toNat * 3)).off + 2, none⟩ = some (.int .i64 ((rd_T36 l0 aa).f2))) (ds := []) (bA 47 0) (by kernel_rfl) rfl (by kernel_rfl) ⟨((HB.out.cell (World.block_lt_of_cell? w _ hw190_0)).trans hw190_0), ((HB.out.cell (World.block_lt_of_cell? w _ hw190_1)).trans hw190_1), ((HB.out.cell (World.block_lt_of_cell? w _ hw190_2)).trans hw190_2), ((HB.out.cell (World.block_lt_of_cell? w _ hw191_0)).trans hw191_0), ((HB.out.cell (World.block_lt_of_cell? w _ hw191_1)).trans hw191_1), ((HB.out.cell (World.block_lt_of_cell? w _ hw191_2)).trans hw191_2), ((HB.out.cell (World.block_lt_of_cell? w _ hw192_0)).trans hw192_0), ((HB.out.cell (World.block_lt_of_cell? w _ hw192_1)).trans hw192_1), ((HB.out.cell (World.block_lt_of_cell? w _ hw192_2)).trans hw192_2)⟩ (fun hHeld => ?_); refine with_tabW graftwoodref11_May.tab4 graftwoodref11_May.bits4 (fun HT_ HW_ => ?_)
        generalize wr.drew = w9 at HB ab ac ad ae af ag ah ai aj hHeld ⊢
        refine pT 0 10 (bA 47 1) HT_.out ?_
        refine pT 1 11 (bA 47 3) HT_.out ?_
        refine pT 2 12 (bA 47 7) HT_.out ?_
        refine pT 3 13 (bA 47 15) HT_.out ?_
        refine tT 4 14 (bA 47 31) HT_.out HW_.out hHeld ?_ (hy := by rintro w' ⟨s0, s1, s2, s3, s4, s5, s6, s7, s8⟩; go_simp; with_reducible rfl)
        refine pT 5 15 (bA 47 63) HT_.out ?_
        refine pT 6 16 (bA 47 127) HT_.out ?_
        refine pT 7 17 (bA 47 255) HT_.out ?_
        refine pT 8 18 (bA 47 511) HT_.out ?_
        refine pT 9 19 (bA 47 1023) HT_.out ?_
        refine pT 10 20 (bA 47 2047) HT_.out ?_
        refine tT 11 21 (bA 47 4095) HT_.out HW_.out hHeld ?_ (hy := by rintro w' ⟨s0, s1, s2, s3, s4, s5, s6, s7, s8⟩; go_simp; with_reducible rfl)
        refine pT 12 22 (bA 47 8191) HT_.out ?_
        refine pT 13 23 (bA 47 16383) HT_.out ?_
        refine pT 14 24 (bA 47 32767) HT_.out ?_
        refine pT 15 25 (bA 47 65535) HT_.out ?_
        refine pT 16 26 (bA 47 131071) HT_.out ?_
        refine pT 17 27 (bA 47 262143) HT_.out ?_
        refine pT 18 28 (bA 47 524287) HT_.out ?_
        refine tT 19 29 (bA 47 1048575) HT_.out HW_.out hHeld ?_ (hy := by rintro w' ⟨s0, s1, s2, s3, s4, s5, s6, s7, s8⟩; go_simp; with_reducible rfl)
        refine pT 20 30 (bA 47 2097151) HT_.out ?_
        refine pT 21 31 (bA 47 4194303) HT_.out ?_
        refine pT 22 32 (bA 47 8388607) HT_.out ?_
        refine pU 23 33 (bA 47 16777215) HT_.out ?_
        refine pU 24 34 (bA 47 33554431) HT_.out ?_
        refine pU 25 35 (bA 47 67108863) HT_.out ?_
        refine pU 26 36 (bA 47 134217727) HT_.out ?_
        refine pU 27 37 (bA 47 268435455) HT_.out ?_
        refine pU 28 38 (bA 47 536870911) HT_.out ?_
        refine pT 29 39 (bA 47 1073741823) HT_.out ?_
        refine pT 30 40 (bA 47 2147483647) HT_.out ?_
        refine pU 31 41 (bA 47 4294967295) HT_.out ?_
        refine pU 32 42 (bA 47 8589934591) HT_.out ?_
        refine pU 33 43 (bA 47 17179869183) HT_.out ?_
        refine pU 34 44 (bA 47 34359738367) HT_.out ?_
        refine pU 35 45 (bA 47 68719476735) HT_.out ?_
        refine pU 36 46 (bA 47 137438953471) HT_.out ?_
        refine pU 37 47 (bA 47 274877906943) HT_.out ?_
        refine pU 38 48 (bA 47 549755813887) HT_.out ?_
        refine pU 39 49 (bA 47 1099511627775) HT_.out ?_
        refine pU 40 50 (bA 47 2199023255551) HT_.out ?_
        refine pU 41 51 (bA 47 4398046511103) HT_.out ?_
        refine pU 42 52 (bA 47 8796093022207) HT_.out ?_
        refine pU 43 53 (bA 47 17592186044415) HT_.out ?_
        refine pU 44 54 (bA 47 35184372088831) HT_.out ?_
        refine pU 45 55 (bA 47 70368744177663) HT_.out ?_
        refine pT 46 56 (bA 47 140737488355327) HT_.out ?_
        refine done_ (done_of HT_.out (by kernel_rfl)) ?_
        try go_wp2
        go_ret
        exact ⟨by first | rfl | (simp [errW_none, errW_some] <;> rfl) | (simp [*, errW_none, errW_some] <;> rfl), eT HB.out⟩
       ·rw [if_neg c8] at H
        have aF : decide (((rd_T36 l0 aa).f2) < 1) = false := decide_eq_false c8
        clear c8
        by_cases c10 : ((rd_T36 l0 aa).f2) > 1099511627776
        ·rw [if_pos c10] at H
         have az : decide (1099511627776 < ((rd_T36 l0 aa).f2)) = true := decide_eq_true c10
         clear c10
         obtain rfl := Option.some.inj H
         try go_wp2
         replace HB := am (below_drew1 HB.out)
         have p190 : 0 ≤ (aa : Int) := of_decide_eq_true (by first | (with_reducible assumption) | assumption)
         have q190 : aa < (l0.length : Int) := of_decide_eq_true (by first | (with_reducible assumption) | assumption)
         obtain ⟨ad190, e190, ab, ac, ad⟩ := at_T36 HR0.out aa p190 q190
         have hw190_2 := ad
         have hw190_1 := ac
         have hw190_0 := ab
         cases e190
         replace ab := (HB.out.cell (World.block_lt_of_cell? w _ ab)).trans ab
         replace ac := (HB.out.cell (World.block_lt_of_cell? w _ ac)).trans ac
         replace ad := (HB.out.cell (World.block_lt_of_cell? w _ ad)).trans ad
         replace p190 := eq_true p190
         replace q190 := eq_true q190
         have p191 : 0 ≤ (aa : Int) := of_decide_eq_true (by first | (with_reducible assumption) | assumption)
         have q191 : aa < (l0.length : Int) := of_decide_eq_true (by first | (with_reducible assumption) | assumption)
         obtain ⟨ad191, e191, ae, af, ag⟩ := at_T36 HR0.out aa p191 q191
         have hw191_2 := ag
         have hw191_1 := af
         have hw191_0 := ae
         obtain rfl : ad190 = ad191 := (by injection e191)
         replace ae := (HB.out.cell (World.block_lt_of_cell? w _ ae)).trans ae
         replace af := (HB.out.cell (World.block_lt_of_cell? w _ af)).trans af
         replace ag := (HB.out.cell (World.block_lt_of_cell? w _ ag)).trans ag
         replace p191 := eq_true p191
         replace q191 := eq_true q191
         have p192 : 0 ≤ (aa : Int) := of_decide_eq_true (by first | (with_reducible assumption) | assumption)
         have q192 : aa < (l0.length : Int) := of_decide_eq_true (by first | (with_reducible assumption) | assumption)
         obtain ⟨ad192, e192, ah, ai, aj⟩ := at_T36 HR0.out aa p192 q192
         have hw192_2 := aj
         have hw192_1 := ai
         have hw192_0 := ah
         obtain rfl : ad190 = ad192 := (by injection e192)
         replace ah := (HB.out.cell (World.block_lt_of_cell? w _ ah)).trans ah
         replace ai := (HB.out.cell (World.block_lt_of_cell? w _ ai)).trans ai
         replace aj := (HB.out.cell (World.block_lt_of_cell? w _ aj)).trans aj
         replace p192 := eq_true p192
         replace q192 := eq_true q192
         have p193 : 0 ≤ (aa : Int) := of_decide_eq_true (by first | (with_reducible assumption) | assumption)
         have q193 : aa < (l0.length : Int) := of_decide_eq_true (by first | (with_reducible assumption) | assumption)
         obtain ⟨ad193, e193, ak, al, an⟩ := at_T36 HR0.out aa p193 q193
         have hw193_2 := an
         have hw193_1 := al
         have hw193_0 := ak
         obtain rfl : ad190 = ad193 := (by injection e193)
         replace ak := (HB.out.cell (World.block_lt_of_cell? w _ ak)).trans ak
         replace al := (HB.out.cell (World.block_lt_of_cell? w _ al)).trans al
         replace an := (HB.out.cell (World.block_lt_of_cell? w _ an)).trans an
         replace p193 := eq_true p193
         replace q193 := eq_true q193
         refine start_ (n := 47) (S := fun w' => w'.cell? (ad190.add ((aa).toNat * 3)) = some (.int .i64 ((rd_T36 l0 aa).f0)) ∧ w'.cell? ⟨(ad190.add ((aa).toNat * 3)).block, (ad190.add ((aa).toNat * 3)).off + 1, none⟩ = some (.int .i64 ((rd_T36 l0 aa).f1)) ∧ w'.cell? ⟨(ad190.add ((aa).toNat * 3)).block, (ad190.add ((aa).toNat * 3)).off + 2, none⟩ = some (.int .i64 ((rd_T36 l0 aa).f2)) ∧ w'.cell? (ad190.add ((aa).toNat * 3)) = some (.int .i64 ((rd_T36 l0 aa).f0)) ∧ w'.cell? ⟨(ad190.add ((aa).toNat * 3)).block, (ad190.add ((aa).toNat * 3)).off + 1, none⟩ = some (.int .i64 ((rd_T36 l0 aa).f1)) ∧ w'.cell? ⟨(ad190.add ((aa).toNat * 3)).block, (ad190.add ((aa).toNat * 3)).off + 2, none⟩ = some (.int .i64 ((rd_T36 l0 aa).f2)) ∧ w'.cell? (ad190.add ((aa).toNat * 3)) = some (.int .i64 ((rd_T36 l0 aa).f0)) ∧ w'.cell? ⟨(ad190.add ((aa).toNat * 3)).block, (ad190.add ((aa).toNat * 3)).off + 1, none⟩ = some (.int .i64 ((rd_T36 l0 aa).f1)) ∧ w'.cell? ⟨(ad190.add ((aa).toNat * 3)).block, (ad190.add ((aa).toNat * 3)).off + 2, none⟩ = some (.int .i64 ((rd_T36 l0 aa).f2)) ∧ w'.cell? (ad190.add ((aa).toNat * 3)) = some (.int .i64 ((rd_T36 l0 aa).f0)) ∧ w'.cell? ⟨(ad190.add ((aa).toNat * 3)).block, (ad190.add ((aa).toNat * 3)).off + 1, none⟩ = some (.int .i64 ((rd_T36 l0 aa).f1)) ∧ w'.cell? ⟨(ad190.add ((aa).toNat * 3)).block, (ad190.add ((aa).toNat * 3)).off + 2, none⟩ = some (.int .i64 ((rd_T36 l0 aa).f2))) (ds := []) (bA 47 0) (by kernel_rfl) rfl (by kernel_rfl) ⟨((HB.out.cell (World.block_lt_of_cell? w _ hw190_0)).trans hw190_0), ((HB.out.cell (World.block_lt_of_cell? w _ hw190_1)).trans hw190_1), ((HB.out.cell (World.block_lt_of_cell? w _ hw190_2)).trans hw190_2), ((HB.out.cell (World.block_lt_of_cell? w _ hw191_0)).trans hw191_0), ((HB.out.cell (World.block_lt_of_cell? w _ hw191_1)).trans hw191_1), ((HB.out.cell (World.block_lt_of_cell? w _ hw191_2)).trans hw191_2), ((HB.out.cell (World.block_lt_of_cell? w _ hw192_0)).trans hw192_0), ((HB.out.cell (World.block_lt_of_cell? w _ hw192_1)).trans hw192_1), ((HB.out.cell (World.block_lt_of_cell? w _ hw192_2)).trans hw192_2), ((HB.out.cell (World.block_lt_of_cell? w _ hw193_0)).trans hw193_0), ((HB.out.cell (World.block_lt_of_cell? w _ hw193_1)).trans hw193_1), ((HB.out.cell (World.block_lt_of_cell? w _ hw193_2)).trans hw193_2)⟩ (fun hHeld => ?_); refine with_tabW graftwoodref11_May.tab4 graftwoodref11_May.bits4 (fun HT_ HW_ => ?_)
         generalize wr.drew = w11 at HB ab ac ad ae af ag ah ai aj ak al an hHeld ⊢
         refine pT 0 10 (bA 47 1) HT_.out ?_
         refine pT 1 11 (bA 47 3) HT_.out ?_
         refine pT 2 12 (bA 47 7) HT_.out ?_
         refine pT 3 13 (bA 47 15) HT_.out ?_
         refine tT 4 14 (bA 47 31) HT_.out HW_.out hHeld ?_ (hy := by rintro w' ⟨s0, s1, s2, s3, s4, s5, s6, s7, s8, s9, s10, s11⟩; go_simp; with_reducible rfl)
         refine pT 5 15 (bA 47 63) HT_.out ?_
         refine pT 6 16 (bA 47 127) HT_.out ?_
         refine pT 7 17 (bA 47 255) HT_.out ?_
         refine pT 8 18 (bA 47 511) HT_.out ?_
         refine pT 9 19 (bA 47 1023) HT_.out ?_
         refine pT 10 20 (bA 47 2047) HT_.out ?_
         refine tT 11 21 (bA 47 4095) HT_.out HW_.out hHeld ?_ (hy := by rintro w' ⟨s0, s1, s2, s3, s4, s5, s6, s7, s8, s9, s10, s11⟩; go_simp; with_reducible rfl)
         refine pT 12 22 (bA 47 8191) HT_.out ?_
         refine pT 13 23 (bA 47 16383) HT_.out ?_
         refine pT 14 24 (bA 47 32767) HT_.out ?_
         refine pT 15 25 (bA 47 65535) HT_.out ?_
         refine pT 16 26 (bA 47 131071) HT_.out ?_
         refine pT 17 27 (bA 47 262143) HT_.out ?_
         refine pT 18 28 (bA 47 524287) HT_.out ?_
         refine tT 19 29 (bA 47 1048575) HT_.out HW_.out hHeld ?_ (hy := by rintro w' ⟨s0, s1, s2, s3, s4, s5, s6, s7, s8, s9, s10, s11⟩; go_simp; with_reducible rfl)
         refine pT 20 30 (bA 47 2097151) HT_.out ?_
         refine pT 21 31 (bA 47 4194303) HT_.out ?_
         refine pT 22 32 (bA 47 8388607) HT_.out ?_
         refine pT 23 33 (bA 47 16777215) HT_.out ?_
         refine pT 24 34 (bA 47 33554431) HT_.out ?_
         refine pT 25 35 (bA 47 67108863) HT_.out ?_
         refine pT 26 36 (bA 47 134217727) HT_.out ?_
         refine tT 27 37 (bA 47 268435455) HT_.out HW_.out hHeld ?_ (hy := by rintro w' ⟨s0, s1, s2, s3, s4, s5, s6, s7, s8, s9, s10, s11⟩; go_simp; with_reducible rfl)
         refine pT 28 38 (bA 47 536870911) HT_.out ?_
         refine pT 29 39 (bA 47 1073741823) HT_.out ?_
         refine pT 30 40 (bA 47 2147483647) HT_.out ?_
         refine pU 31 41 (bA 47 4294967295) HT_.out ?_
         refine pU 32 42 (bA 47 8589934591) HT_.out ?_
         refine pU 33 43 (bA 47 17179869183) HT_.out ?_
         refine pU 34 44 (bA 47 34359738367) HT_.out ?_
         refine pU 35 45 (bA 47 68719476735) HT_.out ?_
         refine pU 36 46 (bA 47 137438953471) HT_.out ?_
         refine pU 37 47 (bA 47 274877906943) HT_.out ?_
         refine pU 38 48 (bA 47 549755813887) HT_.out ?_
         refine pU 39 49 (bA 47 1099511627775) HT_.out ?_
         refine pU 40 50 (bA 47 2199023255551) HT_.out ?_
         refine pU 41 51 (bA 47 4398046511103) HT_.out ?_
         refine pU 42 52 (bA 47 8796093022207) HT_.out ?_
         refine pU 43 53 (bA 47 17592186044415) HT_.out ?_
         refine pU 44 54 (bA 47 35184372088831) HT_.out ?_
         refine pU 45 55 (bA 47 70368744177663) HT_.out ?_
         refine pT 46 56 (bA 47 140737488355327) HT_.out ?_
         refine done_ (done_of HT_.out (by kernel_rfl)) ?_
         try go_wp2
         go_ret
         exact ⟨by first | rfl | (simp [errW_none, errW_some] <;> rfl) | (simp [*, errW_none, errW_some] <;> rfl), eT HB.out⟩
        ·rw [if_neg c10] at H
         have az : decide (1099511627776 < ((rd_T36 l0 aa).f2)) = false := decide_eq_false c10
         clear c10
         by_cases c12 : aa > 0
         ·rw [if_pos c12] at H
          have aA : decide (0 < aa) = true := decide_eq_true c12
          clear c12
          obtain ⟨ao, ax⟩ : ∃ j_ : Int, (wrap64 (aa - 1)) = j_ := ⟨_, rfl⟩
          replace H : (if 0 ≤ (ao) then (if (ao) < (l0.length : Int) then ((graftwoodref11_Less.f ((rd_T36 l0 (ao)).f0) ((rd_T36 l0 (ao)).f1) ((rd_T36 l0 (ao)).f2) ((rd_T36 l0 aa).f0) ((rd_T36 l0 aa).f1) ((rd_T36 l0 aa).f2)).bind fun ay => (if ay = true then (graftwoodref11_May.l0 k1 l0 (wrap64 (aa + 1))) else (some false))) else (none)) else (none)) = some r := by first | (rw [ax] at H; exact H) | (simp only [ax] at H ⊢; exact H)
          have aG : (IntKind.i64.wrap (aa - 1)) = ao := (i64_w _).trans ax
          by_cases c14 : 0 ≤ (ao)
          ·rw [if_pos c14] at H
           have aH : decide (0 ≤ (ao)) = true := decide_eq_true c14
           clear c14
           by_cases c15 : (ao) < (l0.length : Int)
           ·rw [if_pos c15] at H
            have aI : decide ((ao) < (l0.length : Int)) = true := decide_eq_true c15
            clear c15
            replace H := Option.bind_eq_some_iff.mp H
            obtain ⟨ay, aB, H⟩ := H
            replace H : (if ay = true then (graftwoodref11_May.l0 k1 l0 (wrap64 (aa + 1))) else (some false)) = some r := H
            have A16 := Aside0.mk aB
            clear aB
            by_cases c17 : ay = true
            ·subst c17
             have H1 : (graftwoodref11_May.l0 k1 l0 (wrap64 (aa + 1))) = some r := by rw [if_pos rfl] at H; exact H
             clear H
             have H := H1
             clear H1
             have H' := Aside0.mk H
             clear H
             try go_wp2
             replace HB := am (below_drew1 HB.out)
             have p190 : 0 ≤ (aa : Int) := of_decide_eq_true (by first | (with_reducible assumption) | assumption)
             have q190 : aa < (l0.length : Int) := of_decide_eq_true (by first | (with_reducible assumption) | assumption)
             obtain ⟨ad190, e190, ab, ac, ad⟩ := at_T36 HR0.out aa p190 q190
             have hw190_2 := ad
             have hw190_1 := ac
             have hw190_0 := ab
             cases e190
             replace ab := (HB.out.cell (World.block_lt_of_cell? w _ ab)).trans ab
             replace ac := (HB.out.cell (World.block_lt_of_cell? w _ ac)).trans ac
             replace ad := (HB.out.cell (World.block_lt_of_cell? w _ ad)).trans ad
             replace p190 := eq_true p190
             replace q190 := eq_true q190
             have p191 : 0 ≤ (aa : Int) := of_decide_eq_true (by first | (with_reducible assumption) | assumption)
             have q191 : aa < (l0.length : Int) := of_decide_eq_true (by first | (with_reducible assumption) | assumption)
             obtain ⟨ad191, e191, ae, af, ag⟩ := at_T36 HR0.out aa p191 q191
             have hw191_2 := ag
             have hw191_1 := af
             have hw191_0 := ae
             obtain rfl : ad190 = ad191 := (by injection e191)
             replace ae := (HB.out.cell (World.block_lt_of_cell? w _ ae)).trans ae
             replace af := (HB.out.cell (World.block_lt_of_cell? w _ af)).trans af
             replace ag := (HB.out.cell (World.block_lt_of_cell? w _ ag)).trans ag
             replace p191 := eq_true p191
             replace q191 := eq_true q191
             have p192 : 0 ≤ (aa : Int) := of_decide_eq_true (by first | (with_reducible assumption) | assumption)
             have q192 : aa < (l0.length : Int) := of_decide_eq_true (by first | (with_reducible assumption) | assumption)
             obtain ⟨ad192, e192, ah, ai, aj⟩ := at_T36 HR0.out aa p192 q192
             have hw192_2 := aj
             have hw192_1 := ai
             have hw192_0 := ah
             obtain rfl : ad190 = ad192 := (by injection e192)
             replace ah := (HB.out.cell (World.block_lt_of_cell? w _ ah)).trans ah
             replace ai := (HB.out.cell (World.block_lt_of_cell? w _ ai)).trans ai
             replace aj := (HB.out.cell (World.block_lt_of_cell? w _ aj)).trans aj
             replace p192 := eq_true p192
             replace q192 := eq_true q192
             have p193 : 0 ≤ (aa : Int) := of_decide_eq_true (by first | (with_reducible assumption) | assumption)
             have q193 : aa < (l0.length : Int) := of_decide_eq_true (by first | (with_reducible assumption) | assumption)
             obtain ⟨ad193, e193, ak, al, an⟩ := at_T36 HR0.out aa p193 q193
             have hw193_2 := an
             have hw193_1 := al
             have hw193_0 := ak
             obtain rfl : ad190 = ad193 := (by injection e193)
             replace ak := (HB.out.cell (World.block_lt_of_cell? w _ ak)).trans ak
             replace al := (HB.out.cell (World.block_lt_of_cell? w _ al)).trans al
             replace an := (HB.out.cell (World.block_lt_of_cell? w _ an)).trans an
             replace p193 := eq_true p193
             replace q193 := eq_true q193
             have p194 : 0 ≤ ((ao) : Int) := of_decide_eq_true (by first | (with_reducible assumption) | assumption)
             have q194 : (ao) < (l0.length : Int) := of_decide_eq_true (by first | (with_reducible assumption) | assumption)
             obtain ⟨ad194, e194, ap, aq, ar⟩ := at_T36 HR0.out (ao) p194 q194
             have hw194_2 := ar
             have hw194_1 := aq
             have hw194_0 := ap
             obtain rfl : ad190 = ad194 := (by injection e194)
             replace ap := (HB.out.cell (World.block_lt_of_cell? w _ ap)).trans ap
             replace aq := (HB.out.cell (World.block_lt_of_cell? w _ aq)).trans aq
             replace ar := (HB.out.cell (World.block_lt_of_cell? w _ ar)).trans ar
             replace p194 := eq_true p194
             replace q194 := eq_true q194
             have p195 : 0 ≤ (aa : Int) := of_decide_eq_true (by first | (with_reducible assumption) | assumption)
             have q195 : aa < (l0.length : Int) := of_decide_eq_true (by first | (with_reducible assumption) | assumption)
             obtain ⟨ad195, e195, au, av, aw⟩ := at_T36 HR0.out aa p195 q195
             have hw195_2 := aw
             have hw195_1 := av
             have hw195_0 := au
             obtain rfl : ad190 = ad195 := (by injection e195)
             replace au := (HB.out.cell (World.block_lt_of_cell? w _ au)).trans au
             replace av := (HB.out.cell (World.block_lt_of_cell? w _ av)).trans av
             replace aw := (HB.out.cell (World.block_lt_of_cell? w _ aw)).trans aw
             replace p195 := eq_true p195
             replace q195 := eq_true q195
             refine start_ (n := 47) (S := fun w' => w'.cell? (ad190.add ((aa).toNat * 3)) = some (.int .i64 ((rd_T36 l0 aa).f0)) ∧ w'.cell? ⟨(ad190.add ((aa).toNat * 3)).block, (ad190.add ((aa).toNat * 3)).off + 1, none⟩ = some (.int .i64 ((rd_T36 l0 aa).f1)) ∧ w'.cell? ⟨(ad190.add ((aa).toNat * 3)).block, (ad190.add ((aa).toNat * 3)).off + 2, none⟩ = some (.int .i64 ((rd_T36 l0 aa).f2)) ∧ w'.cell? (ad190.add ((aa).toNat * 3)) = some (.int .i64 ((rd_T36 l0 aa).f0)) ∧ w'.cell? ⟨(ad190.add ((aa).toNat * 3)).block, (ad190.add ((aa).toNat * 3)).off + 1, none⟩ = some (.int .i64 ((rd_T36 l0 aa).f1)) ∧ w'.cell? ⟨(ad190.add ((aa).toNat * 3)).block, (ad190.add ((aa).toNat * 3)).off + 2, none⟩ = some (.int .i64 ((rd_T36 l0 aa).f2)) ∧ w'.cell? (ad190.add ((aa).toNat * 3)) = some (.int .i64 ((rd_T36 l0 aa).f0)) ∧ w'.cell? ⟨(ad190.add ((aa).toNat * 3)).block, (ad190.add ((aa).toNat * 3)).off + 1, none⟩ = some (.int .i64 ((rd_T36 l0 aa).f1)) ∧ w'.cell? ⟨(ad190.add ((aa).toNat * 3)).block, (ad190.add ((aa).toNat * 3)).off + 2, none⟩ = some (.int .i64 ((rd_T36 l0 aa).f2)) ∧ w'.cell? (ad190.add ((aa).toNat * 3)) = some (.int .i64 ((rd_T36 l0 aa).f0)) ∧ w'.cell? ⟨(ad190.add ((aa).toNat * 3)).block, (ad190.add ((aa).toNat * 3)).off + 1, none⟩ = some (.int .i64 ((rd_T36 l0 aa).f1)) ∧ w'.cell? ⟨(ad190.add ((aa).toNat * 3)).block, (ad190.add ((aa).toNat * 3)).off + 2, none⟩ = some (.int .i64 ((rd_T36 l0 aa).f2)) ∧ w'.cell? (ad190.add (((ao)).toNat * 3)) = some (.int .i64 ((rd_T36 l0 (ao)).f0)) ∧ w'.cell? ⟨(ad190.add (((ao)).toNat * 3)).block, (ad190.add (((ao)).toNat * 3)).off + 1, none⟩ = some (.int .i64 ((rd_T36 l0 (ao)).f1)) ∧ w'.cell? ⟨(ad190.add (((ao)).toNat * 3)).block, (ad190.add (((ao)).toNat * 3)).off + 2, none⟩ = some (.int .i64 ((rd_T36 l0 (ao)).f2)) ∧ w'.cell? (ad190.add ((aa).toNat * 3)) = some (.int .i64 ((rd_T36 l0 aa).f0)) ∧ w'.cell? ⟨(ad190.add ((aa).toNat * 3)).block, (ad190.add ((aa).toNat * 3)).off + 1, none⟩ = some (.int .i64 ((rd_T36 l0 aa).f1)) ∧ w'.cell? ⟨(ad190.add ((aa).toNat * 3)).block, (ad190.add ((aa).toNat * 3)).off + 2, none⟩ = some (.int .i64 ((rd_T36 l0 aa).f2))) (ds := []) (bA 47 0) (by kernel_rfl) rfl (by kernel_rfl) ⟨((HB.out.cell (World.block_lt_of_cell? w _ hw190_0)).trans hw190_0), ((HB.out.cell (World.block_lt_of_cell? w _ hw190_1)).trans hw190_1), ((HB.out.cell (World.block_lt_of_cell? w _ hw190_2)).trans hw190_2), ((HB.out.cell (World.block_lt_of_cell? w _ hw191_0)).trans hw191_0), ((HB.out.cell (World.block_lt_of_cell? w _ hw191_1)).trans hw191_1), ((HB.out.cell (World.block_lt_of_cell? w _ hw191_2)).trans hw191_2), ((HB.out.cell (World.block_lt_of_cell? w _ hw192_0)).trans hw192_0), ((HB.out.cell (World.block_lt_of_cell? w _ hw192_1)).trans hw192_1), ((HB.out.cell (World.block_lt_of_cell? w _ hw192_2)).trans hw192_2), ((HB.out.cell (World.block_lt_of_cell? w _ hw193_0)).trans hw193_0), ((HB.out.cell (World.block_lt_of_cell? w _ hw193_1)).trans hw193_1), ((HB.out.cell (World.block_lt_of_cell? w _ hw193_2)).trans hw193_2), ((HB.out.cell (World.block_lt_of_cell? w _ hw194_0)).trans hw194_0), ((HB.out.cell (World.block_lt_of_cell? w _ hw194_1)).trans hw194_1), ((HB.out.cell (World.block_lt_of_cell? w _ hw194_2)).trans hw194_2), ((HB.out.cell (World.block_lt_of_cell? w _ hw195_0)).trans hw195_0), ((HB.out.cell (World.block_lt_of_cell? w _ hw195_1)).trans hw195_1), ((HB.out.cell (World.block_lt_of_cell? w _ hw195_2)).trans hw195_2)⟩ (fun hHeld => ?_); refine with_tabW graftwoodref11_May.tab4 graftwoodref11_May.bits4 (fun HT_ HW_ => ?_)
             generalize wr.drew = w18 at HB ab ac ad ae af ag ah ai aj ak al an ap aq ar au av aw hHeld ⊢
             refine pT 0 10 (bA 47 1) HT_.out ?_
             refine pT 1 11 (bA 47 3) HT_.out ?_
             refine pT 2 12 (bA 47 7) HT_.out ?_
             refine pT 3 13 (bA 47 15) HT_.out ?_
             refine tT 4 14 (bA 47 31) HT_.out HW_.out hHeld ?_ (hy := by rintro w' ⟨s0, s1, s2, s3, s4, s5, s6, s7, s8, s9, s10, s11, s12, s13, s14, s15, s16, s17⟩; go_simp; with_reducible rfl)
             refine pT 5 15 (bA 47 63) HT_.out ?_
             refine pT 6 16 (bA 47 127) HT_.out ?_
             refine pT 7 17 (bA 47 255) HT_.out ?_
             refine pT 8 18 (bA 47 511) HT_.out ?_
             refine pT 9 19 (bA 47 1023) HT_.out ?_
             refine pT 10 20 (bA 47 2047) HT_.out ?_
             refine tT 11 21 (bA 47 4095) HT_.out HW_.out hHeld ?_ (hy := by rintro w' ⟨s0, s1, s2, s3, s4, s5, s6, s7, s8, s9, s10, s11, s12, s13, s14, s15, s16, s17⟩; go_simp; with_reducible rfl)
             refine pT 12 22 (bA 47 8191) HT_.out ?_
             refine pT 13 23 (bA 47 16383) HT_.out ?_
             refine pT 14 24 (bA 47 32767) HT_.out ?_
             refine pT 15 25 (bA 47 65535) HT_.out ?_
             refine pT 16 26 (bA 47 131071) HT_.out ?_
             refine pT 17 27 (bA 47 262143) HT_.out ?_
             refine pT 18 28 (bA 47 524287) HT_.out ?_
             refine tT 19 29 (bA 47 1048575) HT_.out HW_.out hHeld ?_ (hy := by rintro w' ⟨s0, s1, s2, s3, s4, s5, s6, s7, s8, s9, s10, s11, s12, s13, s14, s15, s16, s17⟩; go_simp; with_reducible rfl)
             refine pT 20 30 (bA 47 2097151) HT_.out ?_
             refine pT 21 31 (bA 47 4194303) HT_.out ?_
             refine pT 22 32 (bA 47 8388607) HT_.out ?_
             refine pT 23 33 (bA 47 16777215) HT_.out ?_
             refine pT 24 34 (bA 47 33554431) HT_.out ?_
             refine pT 25 35 (bA 47 67108863) HT_.out ?_
             refine pT 26 36 (bA 47 134217727) HT_.out ?_
             refine tT 27 37 (bA 47 268435455) HT_.out HW_.out hHeld ?_ (hy := by rintro w' ⟨s0, s1, s2, s3, s4, s5, s6, s7, s8, s9, s10, s11, s12, s13, s14, s15, s16, s17⟩; go_simp; with_reducible rfl)
             refine pT 28 38 (bA 47 536870911) HT_.out ?_
             refine pT 29 39 (bA 47 1073741823) HT_.out ?_
             refine pT 30 40 (bA 47 2147483647) HT_.out ?_
             refine pT 31 41 (bA 47 4294967295) HT_.out ?_
             refine pT 32 42 (bA 47 8589934591) HT_.out ?_
             refine pT 33 43 (bA 47 17179869183) HT_.out ?_
             refine pT 34 44 (bA 47 34359738367) HT_.out ?_
             refine pT 35 45 (bA 47 68719476735) HT_.out ?_
             refine pT 36 46 (bA 47 137438953471) HT_.out ?_
             refine pT 37 47 (bA 47 274877906943) HT_.out ?_
             refine pT 39 49 (bA 47 824633720831) HT_.out ?_
             refine pT 40 50 (bA 47 1924145348607) HT_.out ?_
             refine pT 41 51 (bA 47 4123168604159) HT_.out ?_
             refine tT 38 48 (bA 47 4398046511103) HT_.out HW_.out hHeld ?_ (hy := by rintro w' ⟨s0, s1, s2, s3, s4, s5, s6, s7, s8, s9, s10, s11, s12, s13, s14, s15, s16, s17⟩; go_simp; with_reducible rfl)
             refine tT 42 52 (bA 47 8796093022207) HT_.out HW_.out hHeld ?_ (hy := by rintro w' ⟨s0, s1, s2, s3, s4, s5, s6, s7, s8, s9, s10, s11, s12, s13, s14, s15, s16, s17⟩; go_simp; with_reducible rfl)
             refine oT 43 (bA 47 17592186044415) HT_.out fun K hK => ?_
             refine goes_ Try.func39 (by kernel_rfl) rfl #[.agg #[.int .i64 ((rd_T36 l0 (ao)).f0), .int .i64 ((rd_T36 l0 (ao)).f1), .int .i64 ((rd_T36 l0 (ao)).f2)], .agg #[.int .i64 ((rd_T36 l0 aa).f0), .int .i64 ((rd_T36 l0 aa).f1), .int .i64 ((rd_T36 l0 aa).f2)]] (by rfl) rfl rfl (by (try simp only [List.map_toArray, List.map_cons, List.map_nil]); first | done | (simp only [ax]; rfl) | rfl | (simp only [List.length_drop, List.length_take]; rfl)) ?_
             with_reducible refine (graftwoodref11_Less.calls ((rd_T36 l0 (ao)).f0) ((rd_T36 l0 (ao)).f1) ((rd_T36 l0 (ao)).f2) ((rd_T36 l0 aa).f0) ((rd_T36 l0 aa).f1) ((rd_T36 l0 aa).f2) true _ A16.out).mono ?_
             rintro e w19 ⟨rfl, hb⟩
             refine ⟨_, rfl, ?_⟩
             replace HB := am (sT HB.out hb)
             (try clear hb)
             (try clear hb2)
             (try clear hk)
             (try clear hi)
             refine hK.out _ _ ⟨((HB.out.cell (World.block_lt_of_cell? w _ hw190_0)).trans hw190_0), ((HB.out.cell (World.block_lt_of_cell? w _ hw190_1)).trans hw190_1), ((HB.out.cell (World.block_lt_of_cell? w _ hw190_2)).trans hw190_2), ((HB.out.cell (World.block_lt_of_cell? w _ hw191_0)).trans hw191_0), ((HB.out.cell (World.block_lt_of_cell? w _ hw191_1)).trans hw191_1), ((HB.out.cell (World.block_lt_of_cell? w _ hw191_2)).trans hw191_2), ((HB.out.cell (World.block_lt_of_cell? w _ hw192_0)).trans hw192_0), ((HB.out.cell (World.block_lt_of_cell? w _ hw192_1)).trans hw192_1), ((HB.out.cell (World.block_lt_of_cell? w _ hw192_2)).trans hw192_2), ((HB.out.cell (World.block_lt_of_cell? w _ hw193_0)).trans hw193_0), ((HB.out.cell (World.block_lt_of_cell? w _ hw193_1)).trans hw193_1), ((HB.out.cell (World.block_lt_of_cell? w _ hw193_2)).trans hw193_2), ((HB.out.cell (World.block_lt_of_cell? w _ hw194_0)).trans hw194_0), ((HB.out.cell (World.block_lt_of_cell? w _ hw194_1)).trans hw194_1), ((HB.out.cell (World.block_lt_of_cell? w _ hw194_2)).trans hw194_2), ((HB.out.cell (World.block_lt_of_cell? w _ hw195_0)).trans hw195_0), ((HB.out.cell (World.block_lt_of_cell? w _ hw195_1)).trans hw195_1), ((HB.out.cell (World.block_lt_of_cell? w _ hw195_2)).trans hw195_2)⟩ (fun hHeld => ?_)
             clear hK K
             refine mN 53 ?_
             refine pT 44 54 (bA 47 35184372088831) HT_.out ?_
             refine pT 45 55 (bA 47 70368744177663) HT_.out ?_
             refine pT 46 56 (bA 47 140737488355327) HT_.out ?_
             refine done_ (done_of HT_.out (by kernel_rfl)) ?_
             try go_wp2
             go_roundg k1
             case measure => have := HK1.out; omega
             case rel => exact ⟨(wrap64 (aa + 1)), (by first | rfl | (simp; done) | (simp [*]; done)), H', ⟨by have := HK1.out; omega⟩, ⟨eT HB.out⟩⟩
            ·replace c17 := Bool.eq_false_iff.mpr c17
             subst c17
             have H1 : (some false) = some r := by rw [if_neg (show ¬ (false = true) by decide)] at H; exact H
             clear H
             have H := H1
             clear H1
             obtain rfl := Option.some.inj H
             try go_wp2
             replace HB := am (below_drew1 HB.out)
             have p190 : 0 ≤ (aa : Int) := of_decide_eq_true (by first | (with_reducible assumption) | assumption)
             have q190 : aa < (l0.length : Int) := of_decide_eq_true (by first | (with_reducible assumption) | assumption)
             obtain ⟨ad190, e190, ab, ac, ad⟩ := at_T36 HR0.out aa p190 q190
             have hw190_2 := ad
             have hw190_1 := ac
             have hw190_0 := ab
             cases e190
             replace ab := (HB.out.cell (World.block_lt_of_cell? w _ ab)).trans ab
             replace ac := (HB.out.cell (World.block_lt_of_cell? w _ ac)).trans ac
             replace ad := (HB.out.cell (World.block_lt_of_cell? w _ ad)).trans ad
             replace p190 := eq_true p190
             replace q190 := eq_true q190
             have p191 : 0 ≤ (aa : Int) := of_decide_eq_true (by first | (with_reducible assumption) | assumption)
             have q191 : aa < (l0.length : Int) := of_decide_eq_true (by first | (with_reducible assumption) | assumption)
             obtain ⟨ad191, e191, ae, af, ag⟩ := at_T36 HR0.out aa p191 q191
             have hw191_2 := ag
             have hw191_1 := af
             have hw191_0 := ae
             obtain rfl : ad190 = ad191 := (by injection e191)
             replace ae := (HB.out.cell (World.block_lt_of_cell? w _ ae)).trans ae
             replace af := (HB.out.cell (World.block_lt_of_cell? w _ af)).trans af
             replace ag := (HB.out.cell (World.block_lt_of_cell? w _ ag)).trans ag
             replace p191 := eq_true p191
             replace q191 := eq_true q191
             have p192 : 0 ≤ (aa : Int) := of_decide_eq_true (by first | (with_reducible assumption) | assumption)
             have q192 : aa < (l0.length : Int) := of_decide_eq_true (by first | (with_reducible assumption) | assumption)
             obtain ⟨ad192, e192, ah, ai, aj⟩ := at_T36 HR0.out aa p192 q192
             have hw192_2 := aj
             have hw192_1 := ai
             have hw192_0 := ah
             obtain rfl : ad190 = ad192 := (by injection e192)
             replace ah := (HB.out.cell (World.block_lt_of_cell? w _ ah)).trans ah
             replace ai := (HB.out.cell (World.block_lt_of_cell? w _ ai)).trans ai
             replace aj := (HB.out.cell (World.block_lt_of_cell? w _ aj)).trans aj
             replace p192 := eq_true p192
             replace q192 := eq_true q192
             have p193 : 0 ≤ (aa : Int) := of_decide_eq_true (by first | (with_reducible assumption) | assumption)
             have q193 : aa < (l0.length : Int) := of_decide_eq_true (by first | (with_reducible assumption) | assumption)
             obtain ⟨ad193, e193, ak, al, an⟩ := at_T36 HR0.out aa p193 q193
             have hw193_2 := an
             have hw193_1 := al
             have hw193_0 := ak
             obtain rfl : ad190 = ad193 := (by injection e193)
             replace ak := (HB.out.cell (World.block_lt_of_cell? w _ ak)).trans ak
             replace al := (HB.out.cell (World.block_lt_of_cell? w _ al)).trans al
             replace an := (HB.out.cell (World.block_lt_of_cell? w _ an)).trans an
             replace p193 := eq_true p193
             replace q193 := eq_true q193
             have p194 : 0 ≤ ((ao) : Int) := of_decide_eq_true (by first | (with_reducible assumption) | assumption)
             have q194 : (ao) < (l0.length : Int) := of_decide_eq_true (by first | (with_reducible assumption) | assumption)
             obtain ⟨ad194, e194, ap, aq, ar⟩ := at_T36 HR0.out (ao) p194 q194
             have hw194_2 := ar
             have hw194_1 := aq
             have hw194_0 := ap
             obtain rfl : ad190 = ad194 := (by injection e194)
             replace ap := (HB.out.cell (World.block_lt_of_cell? w _ ap)).trans ap
             replace aq := (HB.out.cell (World.block_lt_of_cell? w _ aq)).trans aq
             replace ar := (HB.out.cell (World.block_lt_of_cell? w _ ar)).trans ar
             replace p194 := eq_true p194
             replace q194 := eq_true q194
             have p195 : 0 ≤ (aa : Int) := of_decide_eq_true (by first | (with_reducible assumption) | assumption)
             have q195 : aa < (l0.length : Int) := of_decide_eq_true (by first | (with_reducible assumption) | assumption)
             obtain ⟨ad195, e195, au, av, aw⟩ := at_T36 HR0.out aa p195 q195
             have hw195_2 := aw
             have hw195_1 := av
             have hw195_0 := au
             obtain rfl : ad190 = ad195 := (by injection e195)
             replace au := (HB.out.cell (World.block_lt_of_cell? w _ au)).trans au
             replace av := (HB.out.cell (World.block_lt_of_cell? w _ av)).trans av
             replace aw := (HB.out.cell (World.block_lt_of_cell? w _ aw)).trans aw
             replace p195 := eq_true p195
             replace q195 := eq_true q195
             refine start_ (n := 47) (S := fun w' => w'.cell? (ad190.add ((aa).toNat * 3)) = some (.int .i64 ((rd_T36 l0 aa).f0)) ∧ w'.cell? ⟨(ad190.add ((aa).toNat * 3)).block, (ad190.add ((aa).toNat * 3)).off + 1, none⟩ = some (.int .i64 ((rd_T36 l0 aa).f1)) ∧ w'.cell? ⟨(ad190.add ((aa).toNat * 3)).block, (ad190.add ((aa).toNat * 3)).off + 2, none⟩ = some (.int .i64 ((rd_T36 l0 aa).f2)) ∧ w'.cell? (ad190.add ((aa).toNat * 3)) = some (.int .i64 ((rd_T36 l0 aa).f0)) ∧ w'.cell? ⟨(ad190.add ((aa).toNat * 3)).block, (ad190.add ((aa).toNat * 3)).off + 1, none⟩ = some (.int .i64 ((rd_T36 l0 aa).f1)) ∧ w'.cell? ⟨(ad190.add ((aa).toNat * 3)).block, (ad190.add ((aa).toNat * 3)).off + 2, none⟩ = some (.int .i64 ((rd_T36 l0 aa).f2)) ∧ w'.cell? (ad190.add ((aa).toNat * 3)) = some (.int .i64 ((rd_T36 l0 aa).f0)) ∧ w'.cell? ⟨(ad190.add ((aa).toNat * 3)).block, (ad190.add ((aa).toNat * 3)).off + 1, none⟩ = some (.int .i64 ((rd_T36 l0 aa).f1)) ∧ w'.cell? ⟨(ad190.add ((aa).toNat * 3)).block, (ad190.add ((aa).toNat * 3)).off + 2, none⟩ = some (.int .i64 ((rd_T36 l0 aa).f2)) ∧ w'.cell? (ad190.add ((aa).toNat * 3)) = some (.int .i64 ((rd_T36 l0 aa).f0)) ∧ w'.cell? ⟨(ad190.add ((aa).toNat * 3)).block, (ad190.add ((aa).toNat * 3)).off + 1, none⟩ = some (.int .i64 ((rd_T36 l0 aa).f1)) ∧ w'.cell? ⟨(ad190.add ((aa).toNat * 3)).block, (ad190.add ((aa).toNat * 3)).off + 2, none⟩ = some (.int .i64 ((rd_T36 l0 aa).f2)) ∧ w'.cell? (ad190.add (((ao)).toNat * 3)) = some (.int .i64 ((rd_T36 l0 (ao)).f0)) ∧ w'.cell? ⟨(ad190.add (((ao)).toNat * 3)).block, (ad190.add (((ao)).toNat * 3)).off + 1, none⟩ = some (.int .i64 ((rd_T36 l0 (ao)).f1)) ∧ w'.cell? ⟨(ad190.add (((ao)).toNat * 3)).block, (ad190.add (((ao)).toNat * 3)).off + 2, none⟩ = some (.int .i64 ((rd_T36 l0 (ao)).f2)) ∧ w'.cell? (ad190.add ((aa).toNat * 3)) = some (.int .i64 ((rd_T36 l0 aa).f0)) ∧ w'.cell? ⟨(ad190.add ((aa).toNat * 3)).block, (ad190.add ((aa).toNat * 3)).off + 1, none⟩ = some (.int .i64 ((rd_T36 l0 aa).f1)) ∧ w'.cell? ⟨(ad190.add ((aa).toNat * 3)).block, (ad190.add ((aa).toNat * 3)).off + 2, none⟩ = some (.int .i64 ((rd_T36 l0 aa).f2))) (ds := []) (bA 47 0) (by kernel_rfl) rfl (by kernel_rfl) ⟨((HB.out.cell (World.block_lt_of_cell? w _ hw190_0)).trans hw190_0), ((HB.out.cell (World.block_lt_of_cell? w _ hw190_1)).trans hw190_1), ((HB.out.cell (World.block_lt_of_cell? w _ hw190_2)).trans hw190_2), ((HB.out.cell (World.block_lt_of_cell? w _ hw191_0)).trans hw191_0), ((HB.out.cell (World.block_lt_of_cell? w _ hw191_1)).trans hw191_1), ((HB.out.cell (World.block_lt_of_cell? w _ hw191_2)).trans hw191_2), ((HB.out.cell (World.block_lt_of_cell? w _ hw192_0)).trans hw192_0), ((HB.out.cell (World.block_lt_of_cell? w _ hw192_1)).trans hw192_1), ((HB.out.cell (World.block_lt_of_cell? w _ hw192_2)).trans hw192_2), ((HB.out.cell (World.block_lt_of_cell? w _ hw193_0)).trans hw193_0), ((HB.out.cell (World.block_lt_of_cell? w _ hw193_1)).trans hw193_1), ((HB.out.cell (World.block_lt_of_cell? w _ hw193_2)).trans hw193_2), ((HB.out.cell (World.block_lt_of_cell? w _ hw194_0)).trans hw194_0), ((HB.out.cell (World.block_lt_of_cell? w _ hw194_1)).trans hw194_1), ((HB.out.cell (World.block_lt_of_cell? w _ hw194_2)).trans hw194_2), ((HB.out.cell (World.block_lt_of_cell? w _ hw195_0)).trans hw195_0), ((HB.out.cell (World.block_lt_of_cell? w _ hw195_1)).trans hw195_1), ((HB.out.cell (World.block_lt_of_cell? w _ hw195_2)).trans hw195_2)⟩ (fun hHeld => ?_); refine with_tabW graftwoodref11_May.tab4 graftwoodref11_May.bits4 (fun HT_ HW_ => ?_)
             generalize wr.drew = w20 at HB ab ac ad ae af ag ah ai aj ak al an ap aq ar au av aw hHeld ⊢
             refine pT 0 10 (bA 47 1) HT_.out ?_
             refine pT 1 11 (bA 47 3) HT_.out ?_
             refine pT 2 12 (bA 47 7) HT_.out ?_
             refine pT 3 13 (bA 47 15) HT_.out ?_
             refine tT 4 14 (bA 47 31) HT_.out HW_.out hHeld ?_ (hy := by rintro w' ⟨s0, s1, s2, s3, s4, s5, s6, s7, s8, s9, s10, s11, s12, s13, s14, s15, s16, s17⟩; go_simp; with_reducible rfl)
             refine pT 5 15 (bA 47 63) HT_.out ?_
             refine pT 6 16 (bA 47 127) HT_.out ?_
             refine pT 7 17 (bA 47 255) HT_.out ?_
             refine pT 8 18 (bA 47 511) HT_.out ?_
             refine pT 9 19 (bA 47 1023) HT_.out ?_
             refine pT 10 20 (bA 47 2047) HT_.out ?_
             refine tT 11 21 (bA 47 4095) HT_.out HW_.out hHeld ?_ (hy := by rintro w' ⟨s0, s1, s2, s3, s4, s5, s6, s7, s8, s9, s10, s11, s12, s13, s14, s15, s16, s17⟩; go_simp; with_reducible rfl)
             refine pT 12 22 (bA 47 8191) HT_.out ?_
             refine pT 13 23 (bA 47 16383) HT_.out ?_
             refine pT 14 24 (bA 47 32767) HT_.out ?_
             refine pT 15 25 (bA 47 65535) HT_.out ?_
             refine pT 16 26 (bA 47 131071) HT_.out ?_
             refine pT 17 27 (bA 47 262143) HT_.out ?_
             refine pT 18 28 (bA 47 524287) HT_.out ?_
             refine tT 19 29 (bA 47 1048575) HT_.out HW_.out hHeld ?_ (hy := by rintro w' ⟨s0, s1, s2, s3, s4, s5, s6, s7, s8, s9, s10, s11, s12, s13, s14, s15, s16, s17⟩; go_simp; with_reducible rfl)
             refine pT 20 30 (bA 47 2097151) HT_.out ?_
             refine pT 21 31 (bA 47 4194303) HT_.out ?_
             refine pT 22 32 (bA 47 8388607) HT_.out ?_
             refine pT 23 33 (bA 47 16777215) HT_.out ?_
             refine pT 24 34 (bA 47 33554431) HT_.out ?_
             refine pT 25 35 (bA 47 67108863) HT_.out ?_
             refine pT 26 36 (bA 47 134217727) HT_.out ?_
             refine tT 27 37 (bA 47 268435455) HT_.out HW_.out hHeld ?_ (hy := by rintro w' ⟨s0, s1, s2, s3, s4, s5, s6, s7, s8, s9, s10, s11, s12, s13, s14, s15, s16, s17⟩; go_simp; with_reducible rfl)
             refine pT 28 38 (bA 47 536870911) HT_.out ?_
             refine pT 29 39 (bA 47 1073741823) HT_.out ?_
             refine pT 30 40 (bA 47 2147483647) HT_.out ?_
             refine pT 31 41 (bA 47 4294967295) HT_.out ?_
             refine pT 32 42 (bA 47 8589934591) HT_.out ?_
             refine pT 33 43 (bA 47 17179869183) HT_.out ?_
             refine pT 34 44 (bA 47 34359738367) HT_.out ?_
             refine pT 35 45 (bA 47 68719476735) HT_.out ?_
             refine pT 36 46 (bA 47 137438953471) HT_.out ?_
             refine pT 37 47 (bA 47 274877906943) HT_.out ?_
             refine pT 39 49 (bA 47 824633720831) HT_.out ?_
             refine pT 40 50 (bA 47 1924145348607) HT_.out ?_
             refine pT 41 51 (bA 47 4123168604159) HT_.out ?_
             refine tT 38 48 (bA 47 4398046511103) HT_.out HW_.out hHeld ?_ (hy := by rintro w' ⟨s0, s1, s2, s3, s4, s5, s6, s7, s8, s9, s10, s11, s12, s13, s14, s15, s16, s17⟩; go_simp; with_reducible rfl)
             refine tT 42 52 (bA 47 8796093022207) HT_.out HW_.out hHeld ?_ (hy := by rintro w' ⟨s0, s1, s2, s3, s4, s5, s6, s7, s8, s9, s10, s11, s12, s13, s14, s15, s16, s17⟩; go_simp; with_reducible rfl)
             refine oT 43 (bA 47 17592186044415) HT_.out fun K hK => ?_
             refine goes_ Try.func39 (by kernel_rfl) rfl #[.agg #[.int .i64 ((rd_T36 l0 (ao)).f0), .int .i64 ((rd_T36 l0 (ao)).f1), .int .i64 ((rd_T36 l0 (ao)).f2)], .agg #[.int .i64 ((rd_T36 l0 aa).f0), .int .i64 ((rd_T36 l0 aa).f1), .int .i64 ((rd_T36 l0 aa).f2)]] (by rfl) rfl rfl (by (try simp only [List.map_toArray, List.map_cons, List.map_nil]); first | done | (simp only [ax]; rfl) | rfl | (simp only [List.length_drop, List.length_take]; rfl)) ?_
             with_reducible refine (graftwoodref11_Less.calls ((rd_T36 l0 (ao)).f0) ((rd_T36 l0 (ao)).f1) ((rd_T36 l0 (ao)).f2) ((rd_T36 l0 aa).f0) ((rd_T36 l0 aa).f1) ((rd_T36 l0 aa).f2) false _ A16.out).mono ?_
             rintro e w21 ⟨rfl, hb⟩
             refine ⟨_, rfl, ?_⟩
             replace HB := am (sT HB.out hb)
             (try clear hb)
             (try clear hb2)
             (try clear hk)
             (try clear hi)
             refine hK.out _ _ ⟨((HB.out.cell (World.block_lt_of_cell? w _ hw190_0)).trans hw190_0), ((HB.out.cell (World.block_lt_of_cell? w _ hw190_1)).trans hw190_1), ((HB.out.cell (World.block_lt_of_cell? w _ hw190_2)).trans hw190_2), ((HB.out.cell (World.block_lt_of_cell? w _ hw191_0)).trans hw191_0), ((HB.out.cell (World.block_lt_of_cell? w _ hw191_1)).trans hw191_1), ((HB.out.cell (World.block_lt_of_cell? w _ hw191_2)).trans hw191_2), ((HB.out.cell (World.block_lt_of_cell? w _ hw192_0)).trans hw192_0), ((HB.out.cell (World.block_lt_of_cell? w _ hw192_1)).trans hw192_1), ((HB.out.cell (World.block_lt_of_cell? w _ hw192_2)).trans hw192_2), ((HB.out.cell (World.block_lt_of_cell? w _ hw193_0)).trans hw193_0), ((HB.out.cell (World.block_lt_of_cell? w _ hw193_1)).trans hw193_1), ((HB.out.cell (World.block_lt_of_cell? w _ hw193_2)).trans hw193_2), ((HB.out.cell (World.block_lt_of_cell? w _ hw194_0)).trans hw194_0), ((HB.out.cell (World.block_lt_of_cell? w _ hw194_1)).trans hw194_1), ((HB.out.cell (World.block_lt_of_cell? w _ hw194_2)).trans hw194_2), ((HB.out.cell (World.block_lt_of_cell? w _ hw195_0)).trans hw195_0), ((HB.out.cell (World.block_lt_of_cell? w _ hw195_1)).trans hw195_1), ((HB.out.cell (World.block_lt_of_cell? w _ hw195_2)).trans hw195_2)⟩ (fun hHeld => ?_)
             clear hK K
             refine mN 53 ?_
             refine pT 44 54 (bA 47 35184372088831) HT_.out ?_
             refine pT 45 55 (bA 47 70368744177663) HT_.out ?_
             refine pT 46 56 (bA 47 140737488355327) HT_.out ?_
             refine done_ (done_of HT_.out (by kernel_rfl)) ?_
             try go_wp2
             go_ret
             exact ⟨by first | rfl | (simp [errW_none, errW_some] <;> rfl) | (simp only [← ax]; first | rfl | (simp [errW_none, errW_some] <;> rfl)) | (simp [*, errW_none, errW_some] <;> rfl), eT HB.out⟩
           ·rw [if_neg c15] at H
            exact absurd H (by simp)
          ·rw [if_neg c14] at H
           exact absurd H (by simp)
         ·rw [if_neg c12] at H
          have aA : decide (0 < aa) = false := decide_eq_false c12
          clear c12
          have H' := Aside0.mk H
          clear H
          try go_wp2
          replace HB := am (below_drew1 HB.out)
          have p190 : 0 ≤ (aa : Int) := of_decide_eq_true (by first | (with_reducible assumption) | assumption)
          have q190 : aa < (l0.length : Int) := of_decide_eq_true (by first | (with_reducible assumption) | assumption)
          obtain ⟨ad190, e190, ab, ac, ad⟩ := at_T36 HR0.out aa p190 q190
          have hw190_2 := ad
          have hw190_1 := ac
          have hw190_0 := ab
          cases e190
          replace ab := (HB.out.cell (World.block_lt_of_cell? w _ ab)).trans ab
          replace ac := (HB.out.cell (World.block_lt_of_cell? w _ ac)).trans ac
          replace ad := (HB.out.cell (World.block_lt_of_cell? w _ ad)).trans ad
          replace p190 := eq_true p190
          replace q190 := eq_true q190
          have p191 : 0 ≤ (aa : Int) := of_decide_eq_true (by first | (with_reducible assumption) | assumption)
          have q191 : aa < (l0.length : Int) := of_decide_eq_true (by first | (with_reducible assumption) | assumption)
          obtain ⟨ad191, e191, ae, af, ag⟩ := at_T36 HR0.out aa p191 q191
          have hw191_2 := ag
          have hw191_1 := af
          have hw191_0 := ae
          obtain rfl : ad190 = ad191 := (by injection e191)
          replace ae := (HB.out.cell (World.block_lt_of_cell? w _ ae)).trans ae
          replace af := (HB.out.cell (World.block_lt_of_cell? w _ af)).trans af
          replace ag := (HB.out.cell (World.block_lt_of_cell? w _ ag)).trans ag
          replace p191 := eq_true p191
          replace q191 := eq_true q191
          have p192 : 0 ≤ (aa : Int) := of_decide_eq_true (by first | (with_reducible assumption) | assumption)
          have q192 : aa < (l0.length : Int) := of_decide_eq_true (by first | (with_reducible assumption) | assumption)
          obtain ⟨ad192, e192, ah, ai, aj⟩ := at_T36 HR0.out aa p192 q192
          have hw192_2 := aj
          have hw192_1 := ai
          have hw192_0 := ah
          obtain rfl : ad190 = ad192 := (by injection e192)
          replace ah := (HB.out.cell (World.block_lt_of_cell? w _ ah)).trans ah
          replace ai := (HB.out.cell (World.block_lt_of_cell? w _ ai)).trans ai
          replace aj := (HB.out.cell (World.block_lt_of_cell? w _ aj)).trans aj
          replace p192 := eq_true p192
          replace q192 := eq_true q192
          have p193 : 0 ≤ (aa : Int) := of_decide_eq_true (by first | (with_reducible assumption) | assumption)
          have q193 : aa < (l0.length : Int) := of_decide_eq_true (by first | (with_reducible assumption) | assumption)
          obtain ⟨ad193, e193, ak, al, an⟩ := at_T36 HR0.out aa p193 q193
          have hw193_2 := an
          have hw193_1 := al
          have hw193_0 := ak
          obtain rfl : ad190 = ad193 := (by injection e193)
          replace ak := (HB.out.cell (World.block_lt_of_cell? w _ ak)).trans ak
          replace al := (HB.out.cell (World.block_lt_of_cell? w _ al)).trans al
          replace an := (HB.out.cell (World.block_lt_of_cell? w _ an)).trans an
          replace p193 := eq_true p193
          replace q193 := eq_true q193
          refine start_ (n := 47) (S := fun w' => w'.cell? (ad190.add ((aa).toNat * 3)) = some (.int .i64 ((rd_T36 l0 aa).f0)) ∧ w'.cell? ⟨(ad190.add ((aa).toNat * 3)).block, (ad190.add ((aa).toNat * 3)).off + 1, none⟩ = some (.int .i64 ((rd_T36 l0 aa).f1)) ∧ w'.cell? ⟨(ad190.add ((aa).toNat * 3)).block, (ad190.add ((aa).toNat * 3)).off + 2, none⟩ = some (.int .i64 ((rd_T36 l0 aa).f2)) ∧ w'.cell? (ad190.add ((aa).toNat * 3)) = some (.int .i64 ((rd_T36 l0 aa).f0)) ∧ w'.cell? ⟨(ad190.add ((aa).toNat * 3)).block, (ad190.add ((aa).toNat * 3)).off + 1, none⟩ = some (.int .i64 ((rd_T36 l0 aa).f1)) ∧ w'.cell? ⟨(ad190.add ((aa).toNat * 3)).block, (ad190.add ((aa).toNat * 3)).off + 2, none⟩ = some (.int .i64 ((rd_T36 l0 aa).f2)) ∧ w'.cell? (ad190.add ((aa).toNat * 3)) = some (.int .i64 ((rd_T36 l0 aa).f0)) ∧ w'.cell? ⟨(ad190.add ((aa).toNat * 3)).block, (ad190.add ((aa).toNat * 3)).off + 1, none⟩ = some (.int .i64 ((rd_T36 l0 aa).f1)) ∧ w'.cell? ⟨(ad190.add ((aa).toNat * 3)).block, (ad190.add ((aa).toNat * 3)).off + 2, none⟩ = some (.int .i64 ((rd_T36 l0 aa).f2)) ∧ w'.cell? (ad190.add ((aa).toNat * 3)) = some (.int .i64 ((rd_T36 l0 aa).f0)) ∧ w'.cell? ⟨(ad190.add ((aa).toNat * 3)).block, (ad190.add ((aa).toNat * 3)).off + 1, none⟩ = some (.int .i64 ((rd_T36 l0 aa).f1)) ∧ w'.cell? ⟨(ad190.add ((aa).toNat * 3)).block, (ad190.add ((aa).toNat * 3)).off + 2, none⟩ = some (.int .i64 ((rd_T36 l0 aa).f2))) (ds := []) (bA 47 0) (by kernel_rfl) rfl (by kernel_rfl) ⟨((HB.out.cell (World.block_lt_of_cell? w _ hw190_0)).trans hw190_0), ((HB.out.cell (World.block_lt_of_cell? w _ hw190_1)).trans hw190_1), ((HB.out.cell (World.block_lt_of_cell? w _ hw190_2)).trans hw190_2), ((HB.out.cell (World.block_lt_of_cell? w _ hw191_0)).trans hw191_0), ((HB.out.cell (World.block_lt_of_cell? w _ hw191_1)).trans hw191_1), ((HB.out.cell (World.block_lt_of_cell? w _ hw191_2)).trans hw191_2), ((HB.out.cell (World.block_lt_of_cell? w _ hw192_0)).trans hw192_0), ((HB.out.cell (World.block_lt_of_cell? w _ hw192_1)).trans hw192_1), ((HB.out.cell (World.block_lt_of_cell? w _ hw192_2)).trans hw192_2), ((HB.out.cell (World.block_lt_of_cell? w _ hw193_0)).trans hw193_0), ((HB.out.cell (World.block_lt_of_cell? w _ hw193_1)).trans hw193_1), ((HB.out.cell (World.block_lt_of_cell? w _ hw193_2)).trans hw193_2)⟩ (fun hHeld => ?_); refine with_tabW graftwoodref11_May.tab4 graftwoodref11_May.bits4 (fun HT_ HW_ => ?_)
          generalize wr.drew = w22 at HB ab ac ad ae af ag ah ai aj ak al an hHeld ⊢
          refine pT 0 10 (bA 47 1) HT_.out ?_
          refine pT 1 11 (bA 47 3) HT_.out ?_
          refine pT 2 12 (bA 47 7) HT_.out ?_
          refine pT 3 13 (bA 47 15) HT_.out ?_
          refine tT 4 14 (bA 47 31) HT_.out HW_.out hHeld ?_ (hy := by rintro w' ⟨s0, s1, s2, s3, s4, s5, s6, s7, s8, s9, s10, s11⟩; go_simp; with_reducible rfl)
          refine pT 5 15 (bA 47 63) HT_.out ?_
          refine pT 6 16 (bA 47 127) HT_.out ?_
          refine pT 7 17 (bA 47 255) HT_.out ?_
          refine pT 8 18 (bA 47 511) HT_.out ?_
          refine pT 9 19 (bA 47 1023) HT_.out ?_
          refine pT 10 20 (bA 47 2047) HT_.out ?_
          refine tT 11 21 (bA 47 4095) HT_.out HW_.out hHeld ?_ (hy := by rintro w' ⟨s0, s1, s2, s3, s4, s5, s6, s7, s8, s9, s10, s11⟩; go_simp; with_reducible rfl)
          refine pT 12 22 (bA 47 8191) HT_.out ?_
          refine pT 13 23 (bA 47 16383) HT_.out ?_
          refine pT 14 24 (bA 47 32767) HT_.out ?_
          refine pT 15 25 (bA 47 65535) HT_.out ?_
          refine pT 16 26 (bA 47 131071) HT_.out ?_
          refine pT 17 27 (bA 47 262143) HT_.out ?_
          refine pT 18 28 (bA 47 524287) HT_.out ?_
          refine tT 19 29 (bA 47 1048575) HT_.out HW_.out hHeld ?_ (hy := by rintro w' ⟨s0, s1, s2, s3, s4, s5, s6, s7, s8, s9, s10, s11⟩; go_simp; with_reducible rfl)
          refine pT 20 30 (bA 47 2097151) HT_.out ?_
          refine pT 21 31 (bA 47 4194303) HT_.out ?_
          refine pT 22 32 (bA 47 8388607) HT_.out ?_
          refine pT 23 33 (bA 47 16777215) HT_.out ?_
          refine pT 24 34 (bA 47 33554431) HT_.out ?_
          refine pT 25 35 (bA 47 67108863) HT_.out ?_
          refine pT 26 36 (bA 47 134217727) HT_.out ?_
          refine tT 27 37 (bA 47 268435455) HT_.out HW_.out hHeld ?_ (hy := by rintro w' ⟨s0, s1, s2, s3, s4, s5, s6, s7, s8, s9, s10, s11⟩; go_simp; with_reducible rfl)
          refine pT 28 38 (bA 47 536870911) HT_.out ?_
          refine pT 29 39 (bA 47 1073741823) HT_.out ?_
          refine pT 30 40 (bA 47 2147483647) HT_.out ?_
          refine pT 31 41 (bA 47 4294967295) HT_.out ?_
          refine pT 32 42 (bA 47 8589934591) HT_.out ?_
          refine pT 33 43 (bA 47 17179869183) HT_.out ?_
          refine pU 34 44 (bA 47 34359738367) HT_.out ?_
          refine pU 35 45 (bA 47 68719476735) HT_.out ?_
          refine pU 36 46 (bA 47 137438953471) HT_.out ?_
          refine pU 37 47 (bA 47 274877906943) HT_.out ?_
          refine pU 38 48 (bA 47 549755813887) HT_.out ?_
          refine pU 39 49 (bA 47 1099511627775) HT_.out ?_
          refine pU 40 50 (bA 47 2199023255551) HT_.out ?_
          refine pU 41 51 (bA 47 4398046511103) HT_.out ?_
          refine pU 42 52 (bA 47 8796093022207) HT_.out ?_
          refine pU 43 53 (bA 47 17592186044415) HT_.out ?_
          refine pU 44 54 (bA 47 35184372088831) HT_.out ?_
          refine pT 45 55 (bA 47 70368744177663) HT_.out ?_
          refine pT 46 56 (bA 47 140737488355327) HT_.out ?_
          refine done_ (done_of HT_.out (by kernel_rfl)) ?_
          try go_wp2
          go_roundg k1
          case measure => have := HK1.out; omega
          case rel => exact ⟨(wrap64 (aa + 1)), (by first | rfl | (simp; done) | (simp [*]; done)), H', ⟨by have := HK1.out; omega⟩, ⟨eT HB.out⟩⟩
    ·rw [if_neg c3] at H
     exact absurd H (by simp)
   ·rw [if_neg c2] at H
    have aC : decide (aa < (l0.length : Int)) = false := decide_eq_false c2
    clear c2
    obtain rfl := Option.some.inj H
    go_wp2
    go_ret
    exact ⟨by first | rfl | (simp [errW_none, errW_some] <;> rfl) | (simp [*, errW_none, errW_some] <;> rfl), eT HB.out⟩

end Go.Proofs.Ytpiamehededilaa.P
