-- Written by this project's own program (wip/tools/hp.py), driving the kit's print; hand texts among it. Not trusted: Lean checks it.
-- half the indentation
import Derived.Test.YtpiamehededilaaThen
import Derived.Test.YtpiamehededilaaP0
import Derived.Test.YtpiamehededilaaP2
import Derived.Test.YtpiamehededilaaP9
import Derived.Test.YtpiamehededilaaP10
import Derived.Test.YtpiamehededilaaP12
import Derived.Test.YtpiamehededilaaP13
import Derived.Test.YtpiamehededilaaP18
import Derived.Test.YtpiamehededilaaP20
namespace Go.Proofs.Ytpiamehededilaa.P
open Go.RowKit Go.Proofs.YtpiamehededilaaW.PrintWords Go.Proofs.YtpiamehededilaaW.PrintLast Go.Proofs.YtpiamehededilaaW.PrintMore
attribute [local go_sem] max2_int min2_int max_two min_two max_three min_three max_four min_four   -- for this text's walks alone
set_option linter.unusedVariables false
set_option linter.unusedSimpArgs false

/-! ### graftwoodlaw15_ReachMore: function 8 -/
mutual
def graftwoodlaw15_ReachMore.j0 : Nat → Bool → List (S36) → List Int → Option (Bool)
 | 0, _, _, _ => none
 | k + 1, x68, aZ, aM => if x68 = true then (some false) else (graftwoodlaw15_ReachMore.l0 k 0 aZ aM)
def graftwoodlaw15_ReachMore.l0 : Nat → Int → List (S36) → List Int → Option (Bool)
 | 0, _, _, _ => none
 | k + 1, x13, aZ, aM => if x13 < (aM.length : Int) then (if 0 ≤ x13 then ((graftwoodref11_Back.f k aZ (rd aM x13)).bind fun aR => (graftwoodlaw15_ReachMore.l1 k x13 aR false 0 aZ aM)) else (none)) else ((graftwoodlaw15_awake.f k).bind fun cE => (some cE))
def graftwoodlaw15_ReachMore.l1 : Nat → Int → List Int → Bool → Int → List (S36) → List Int → Option (Bool)
 | 0, _, _, _, _, _, _ => none
 | k + 1, x13, x14, x15, x16, aZ, aM => if x16 < (x14.length : Int) then (if x15 = true then (graftwoodlaw15_ReachMore.l1 k x13 x14 true (wrap64 (x16 + 1)) aZ aM) else (if 0 ≤ x16 then (if (rd x14 x16) = (-1) then (graftwoodlaw15_ReachMore.l1 k x13 x14 true (wrap64 (x16 + 1)) aZ aM) else ((graftwoodref11_Has.f k aM (rd x14 x16)).bind fun cx => (graftwoodlaw15_ReachMore.l1 k x13 x14 cx (wrap64 (x16 + 1)) aZ aM))) else (none))) else (if x15 = true then (graftwoodlaw15_ReachMore.l0 k (wrap64 (x13 + 1)) aZ aM) else (some false))
end
def graftwoodlaw15_ReachMore.f (k : Nat) (l0_0 : List (S36)) (l0_1 : List Int) (a1 : Int) (a2 : Int) : Option (Bool) := (graftwoodlaw15_Few.f l0_0 l0_1).bind fun bt462 => ((reach_Link.f k bt462.1 bt462.2 a1 a2).bind fun bt468 => (if bt468.2.2.2 = 0 then ((reach_Unlink.f k bt468.1 bt468.2.1 a1 a2).bind fun bt481 => (if bt481.2.2.2 = 0 then ((reach_Same.f k bt481.1 bt481.2.1 bt462.1 bt462.2).bind fun bs => (if bs = true then ((graftwoodref11_Ints.f k bt468.2.2.1 bt481.2.2.1).bind fun bf => (if bf = true then (graftwoodlaw15_ReachMore.j0 k ((bt468.2.1.length : Int) != (wrap64 ((bt462.2.length : Int) + (bt468.2.2.1.length : Int)))) bt468.1 bt468.2.1) else (graftwoodlaw15_ReachMore.j0 k true bt468.1 bt468.2.1))) else (graftwoodlaw15_ReachMore.j0 k true bt468.1 bt468.2.1))) else (graftwoodlaw15_ReachMore.j0 k true bt468.1 bt468.2.1))) else ((graftwoodref15_Same.f k bt468.1 bt468.2.1 bt462.1 bt462.2).bind fun bu => (if bu = true then ((graftwoodlaw15_awake.f k).bind fun bj => (some bj)) else (some false)))))
theorem graftwoodlaw15_ReachMore.mono_l : ∀ k, (∀ y0 y1 y2, LeO (graftwoodlaw15_ReachMore.j0 k y0 y1 y2) (graftwoodlaw15_ReachMore.j0 (k + 1) y0 y1 y2)) ∧ (∀ y0 y1 y2, LeO (graftwoodlaw15_ReachMore.l0 k y0 y1 y2) (graftwoodlaw15_ReachMore.l0 (k + 1) y0 y1 y2)) ∧ (∀ y0 y1 y2 y3 y4 y5, LeO (graftwoodlaw15_ReachMore.l1 k y0 y1 y2 y3 y4 y5) (graftwoodlaw15_ReachMore.l1 (k + 1) y0 y1 y2 y3 y4 y5))
 | 0 => ⟨fun _ _ _ r h => by simp [graftwoodlaw15_ReachMore.j0] at h, fun _ _ _ r h => by simp [graftwoodlaw15_ReachMore.l0] at h, fun _ _ _ _ _ _ r h => by simp [graftwoodlaw15_ReachMore.l1] at h⟩
 | k + 1 => by
  obtain ⟨ih0, ih1, ih2⟩ := graftwoodlaw15_ReachMore.mono_l k
  refine ⟨?_, ?_, ?_⟩
  ·intro y0 y1 y2
   unfold graftwoodlaw15_ReachMore.j0
   repeat' first
   | (with_reducible exact ih0 _ _ _)
   | (with_reducible exact ih1 _ _ _)
   | (with_reducible exact ih2 _ _ _ _ _ _)
   | (with_reducible exact graftwoodlaw15_awake.mono _)
   | (with_reducible exact graftwoodref11_Back.mono _ _ _)
   | (with_reducible exact graftwoodref11_Has.mono _ _ _)
   | (with_reducible exact graftwoodref11_Ints.mono _ _ _)
   | (with_reducible exact graftwoodref15_Same.mono _ _ _ _ _)
   | (with_reducible exact reach_Link.mono _ _ _ _ _)
   | (with_reducible exact reach_Same.mono _ _ _ _ _)
   | (with_reducible exact reach_Unlink.mono _ _ _ _ _)
   | (with_reducible exact LeO.refl _)
   | (with_reducible exact LeO.none _)
   | (with_reducible refine LeO.ite ?_ ?_)
   | (with_reducible refine LeO.bind ?_ (fun _ => ?_))
   | exact ih0 _ _ _
   | exact ih1 _ _ _
   | exact ih2 _ _ _ _ _ _
   | exact graftwoodlaw15_awake.mono _
   | exact graftwoodref11_Back.mono _ _ _
   | exact graftwoodref11_Has.mono _ _ _
   | exact graftwoodref11_Ints.mono _ _ _
   | exact graftwoodref15_Same.mono _ _ _ _ _
   | exact reach_Link.mono _ _ _ _ _
   | exact reach_Same.mono _ _ _ _ _
   | exact reach_Unlink.mono _ _ _ _ _
   | exact LeO.none _
   | refine LeO.ite ?_ ?_
   | refine LeO.bind ?_ (fun _ => ?_)
  ·intro y0 y1 y2
   unfold graftwoodlaw15_ReachMore.l0
   repeat' first
   | (with_reducible exact ih0 _ _ _)
   | (with_reducible exact ih1 _ _ _)
   | (with_reducible exact ih2 _ _ _ _ _ _)
   | (with_reducible exact graftwoodlaw15_awake.mono _)
   | (with_reducible exact graftwoodref11_Back.mono _ _ _)
   | (with_reducible exact graftwoodref11_Has.mono _ _ _)
   | (with_reducible exact graftwoodref11_Ints.mono _ _ _)
   | (with_reducible exact graftwoodref15_Same.mono _ _ _ _ _)
   | (with_reducible exact reach_Link.mono _ _ _ _ _)
   | (with_reducible exact reach_Same.mono _ _ _ _ _)
   | (with_reducible exact reach_Unlink.mono _ _ _ _ _)
   | (with_reducible exact LeO.refl _)
   | (with_reducible exact LeO.none _)
   | (with_reducible refine LeO.ite ?_ ?_)
   | (with_reducible refine LeO.bind ?_ (fun _ => ?_))
   | exact ih0 _ _ _
   | exact ih1 _ _ _
   | exact ih2 _ _ _ _ _ _
   | exact graftwoodlaw15_awake.mono _
   | exact graftwoodref11_Back.mono _ _ _
   | exact graftwoodref11_Has.mono _ _ _
   | exact graftwoodref11_Ints.mono _ _ _
   | exact graftwoodref15_Same.mono _ _ _ _ _
   | exact reach_Link.mono _ _ _ _ _
   | exact reach_Same.mono _ _ _ _ _
   | exact reach_Unlink.mono _ _ _ _ _
   | exact LeO.none _
   | refine LeO.ite ?_ ?_
   | refine LeO.bind ?_ (fun _ => ?_)
  ·intro y0 y1 y2 y3 y4 y5
   unfold graftwoodlaw15_ReachMore.l1
   repeat' first
   | (with_reducible exact ih0 _ _ _)
   | (with_reducible exact ih1 _ _ _)
   | (with_reducible exact ih2 _ _ _ _ _ _)
   | (with_reducible exact graftwoodlaw15_awake.mono _)
   | (with_reducible exact graftwoodref11_Back.mono _ _ _)
   | (with_reducible exact graftwoodref11_Has.mono _ _ _)
   | (with_reducible exact graftwoodref11_Ints.mono _ _ _)
   | (with_reducible exact graftwoodref15_Same.mono _ _ _ _ _)
   | (with_reducible exact reach_Link.mono _ _ _ _ _)
   | (with_reducible exact reach_Same.mono _ _ _ _ _)
   | (with_reducible exact reach_Unlink.mono _ _ _ _ _)
   | (with_reducible exact LeO.refl _)
   | (with_reducible exact LeO.none _)
   | (with_reducible refine LeO.ite ?_ ?_)
   | (with_reducible refine LeO.bind ?_ (fun _ => ?_))
   | exact ih0 _ _ _
   | exact ih1 _ _ _
   | exact ih2 _ _ _ _ _ _
   | exact graftwoodlaw15_awake.mono _
   | exact graftwoodref11_Back.mono _ _ _
   | exact graftwoodref11_Has.mono _ _ _
   | exact graftwoodref11_Ints.mono _ _ _
   | exact graftwoodref15_Same.mono _ _ _ _ _
   | exact reach_Link.mono _ _ _ _ _
   | exact reach_Same.mono _ _ _ _ _
   | exact reach_Unlink.mono _ _ _ _ _
   | exact LeO.none _
   | refine LeO.ite ?_ ?_
   | refine LeO.bind ?_ (fun _ => ?_)
theorem graftwoodlaw15_ReachMore.mono : ∀ a0 a1 a2 a3 k, LeO (graftwoodlaw15_ReachMore.f k a0 a1 a2 a3) (graftwoodlaw15_ReachMore.f (k + 1) a0 a1 a2 a3) := by
 intro a0 a1 a2 a3 k
 obtain ⟨ih0, ih1, ih2⟩ := graftwoodlaw15_ReachMore.mono_l k
 unfold graftwoodlaw15_ReachMore.f
 repeat' first
   | (with_reducible exact ih0 _ _ _)
   | (with_reducible exact ih1 _ _ _)
   | (with_reducible exact ih2 _ _ _ _ _ _)
   | (with_reducible exact graftwoodlaw15_awake.mono _)
   | (with_reducible exact graftwoodref11_Back.mono _ _ _)
   | (with_reducible exact graftwoodref11_Has.mono _ _ _)
   | (with_reducible exact graftwoodref11_Ints.mono _ _ _)
   | (with_reducible exact graftwoodref15_Same.mono _ _ _ _ _)
   | (with_reducible exact reach_Link.mono _ _ _ _ _)
   | (with_reducible exact reach_Same.mono _ _ _ _ _)
   | (with_reducible exact reach_Unlink.mono _ _ _ _ _)
   | (with_reducible exact LeO.refl _)
   | (with_reducible exact LeO.none _)
   | (with_reducible refine LeO.ite ?_ ?_)
   | (with_reducible refine LeO.bind ?_ (fun _ => ?_))
   | exact ih0 _ _ _
   | exact ih1 _ _ _
   | exact ih2 _ _ _ _ _ _
   | exact graftwoodlaw15_awake.mono _
   | exact graftwoodref11_Back.mono _ _ _
   | exact graftwoodref11_Has.mono _ _ _
   | exact graftwoodref11_Ints.mono _ _ _
   | exact graftwoodref15_Same.mono _ _ _ _ _
   | exact reach_Link.mono _ _ _ _ _
   | exact reach_Same.mono _ _ _ _ _
   | exact reach_Unlink.mono _ _ _ _ _
   | exact LeO.none _
   | refine LeO.ite ?_ ?_
   | refine LeO.bind ?_ (fun _ => ?_)
def graftwoodlaw15_ReachMore.T11 : Bool × List (List Nat × List Nat) := (true, [([], []), ([0], [0]), ([], []), ([2], [2]), ([], []), ([3, 4], [3, 4]), ([5], [5]), ([1, 6], [1, 6]), ([7, 7, 0, 1, 2, 3, 4, 5, 6, 7], [7])])
def graftwoodlaw15_ReachMore.B11 : List Nat := [0, 1, 0, 4, 0, 28, 60, 127, 255]
theorem graftwoodlaw15_ReachMore.tab11 : rtab .any (opsOf Try.f8 11) = graftwoodlaw15_ReachMore.T11 := by kernel_rfl
theorem graftwoodlaw15_ReachMore.bits11 : waitsOk graftwoodlaw15_ReachMore.T11.2 graftwoodlaw15_ReachMore.B11 = true := by kernel_rfl
def graftwoodlaw15_ReachMore.T16 : Bool × List (List Nat × List Nat) := (true, [([], []), ([0], [0]), ([1], [1]), ([1], [1]), ([2, 3, 1], [1, 2, 3]), ([4, 1], [1, 4]), ([5, 1], [1, 5]), ([1, 6], [1, 6]), ([7, 1], [7]), ([8], [8]), ([9, 8], [8, 9]), ([8], [8]), ([8], [8]), ([11, 12, 8], [8, 11, 12]), ([13, 8], [8, 13]), ([10, 14, 8, 8], [8, 10, 14]), ([8, 15], [8, 15]), ([16, 15, 0, 1, 2, 3, 4, 5, 6, 7, 8, 9, 10, 11, 12, 13, 14, 15, 16], [0, 16])])
def graftwoodlaw15_ReachMore.B16 : List Nat := [0, 1, 3, 3, 15, 31, 63, 127, 255, 511, 1023, 511, 511, 6655, 14847, 32767, 65535, 131071]
theorem graftwoodlaw15_ReachMore.tab16 : rtab .any (opsOf Try.f8 16) = graftwoodlaw15_ReachMore.T16 := by kernel_rfl
theorem graftwoodlaw15_ReachMore.bits16 : waitsOk graftwoodlaw15_ReachMore.T16.2 graftwoodlaw15_ReachMore.B16 = true := by kernel_rfl
set_option maxHeartbeats 8000000 in
set_option maxRecDepth 100000 in
theorem graftwoodlaw15_ReachMore.calls (k : Nat) (bg : Option Addr) (bh : Nat) (l0_0 : List (S36)) (a_ : Option Addr) (bb : Nat) (l0_1 : List Int) (a1 : Int) (a2 : Int) (r : Bool) (w : World) (hr0_0 : Kd.C k36 w bg l0_0.length l0_0) (hc0_0 : l0_0.length ≤ bh) (hr0_1 : Kd.C (Kd.int .i64) w a_ l0_1.length l0_1) (hc0_1 : l0_1.length ≤ bb) (h : graftwoodlaw15_ReachMore.f k l0_0 l0_1 a1 a2 = some r) (hR_ : r = true) :
  Calls Try.prog 8 #[.agg #[.slice bg l0_0.length bh, .slice a_ l0_1.length bb], .int .i64 a1, .int .i64 a2] w fun e w' => e = .returned (.bool r) ∧ Below w.heap.size w w' := by
 have hu25 := Try.underlying25
 have cM := Aside0.mk hr0_0
 have cN := Aside0.mk hc0_0
 clear hr0_0 hc0_0
 have cO := Aside0.mk hr0_1
 have cP := Aside0.mk hc0_1
 clear hr0_1 hc0_1
 have HB := am (Below.refl w.heap.size w)
 have H : ((graftwoodlaw15_Few.f l0_0 l0_1).bind fun bt462 => ((reach_Link.f k bt462.1 bt462.2 a1 a2).bind fun bt468 => (if bt468.2.2.2 = 0 then ((reach_Unlink.f k bt468.1 bt468.2.1 a1 a2).bind fun bt481 => (if bt481.2.2.2 = 0 then ((reach_Same.f k bt481.1 bt481.2.1 bt462.1 bt462.2).bind fun bs => (if bs = true then ((graftwoodref11_Ints.f k bt468.2.2.1 bt481.2.2.1).bind fun bf => (if bf = true then (graftwoodlaw15_ReachMore.j0 k ((bt468.2.1.length : Int) != (wrap64 ((bt462.2.length : Int) + (bt468.2.2.1.length : Int)))) bt468.1 bt468.2.1) else (graftwoodlaw15_ReachMore.j0 k true bt468.1 bt468.2.1))) else (graftwoodlaw15_ReachMore.j0 k true bt468.1 bt468.2.1))) else (graftwoodlaw15_ReachMore.j0 k true bt468.1 bt468.2.1))) else ((graftwoodref15_Same.f k bt468.1 bt468.2.1 bt462.1 bt462.2).bind fun bu => (if bu = true then ((graftwoodlaw15_awake.f k).bind fun bj => (some bj)) else (some false)))))) = some r := h
 clear h
 replace H := Option.bind_eq_some_iff.mp H
 obtain ⟨⟨av, ar⟩, A40, H⟩ := H
 replace H : ((reach_Link.f k av ar a1 a2).bind fun bt468 => (if bt468.2.2.2 = 0 then ((reach_Unlink.f k bt468.1 bt468.2.1 a1 a2).bind fun bt481 => (if bt481.2.2.2 = 0 then ((reach_Same.f k bt481.1 bt481.2.1 av ar).bind fun bs => (if bs = true then ((graftwoodref11_Ints.f k bt468.2.2.1 bt481.2.2.1).bind fun bf => (if bf = true then (graftwoodlaw15_ReachMore.j0 k ((bt468.2.1.length : Int) != (wrap64 ((ar.length : Int) + (bt468.2.2.1.length : Int)))) bt468.1 bt468.2.1) else (graftwoodlaw15_ReachMore.j0 k true bt468.1 bt468.2.1))) else (graftwoodlaw15_ReachMore.j0 k true bt468.1 bt468.2.1))) else (graftwoodlaw15_ReachMore.j0 k true bt468.1 bt468.2.1))) else ((graftwoodref15_Same.f k bt468.1 bt468.2.1 av ar).bind fun bu => (if bu = true then ((graftwoodlaw15_awake.f k).bind fun bj => (some bj)) else (some false))))) = some r := H
 have A4 := Aside0.mk A40
 clear A40
 replace H := Option.bind_eq_some_iff.mp H
 obtain ⟨⟨ao, ah, bi, cv⟩, A50, H⟩ := H
 replace H : (if cv = 0 then ((reach_Unlink.f k ao ah a1 a2).bind fun bt481 => (if bt481.2.2.2 = 0 then ((reach_Same.f k bt481.1 bt481.2.1 av ar).bind fun bs => (if bs = true then ((graftwoodref11_Ints.f k bi bt481.2.2.1).bind fun bf => (if bf = true then (graftwoodlaw15_ReachMore.j0 k ((ah.length : Int) != (wrap64 ((ar.length : Int) + (bi.length : Int)))) ao ah) else (graftwoodlaw15_ReachMore.j0 k true ao ah))) else (graftwoodlaw15_ReachMore.j0 k true ao ah))) else (graftwoodlaw15_ReachMore.j0 k true ao ah))) else ((graftwoodref15_Same.f k ao ah av ar).bind fun bu => (if bu = true then ((graftwoodlaw15_awake.f k).bind fun bj => (some bj)) else (some false)))) = some r := H
 have A5 := Aside0.mk A50
 clear A50
 by_cases c6 : cv = 0
 ·rw [if_pos c6] at H
  have cF : (cv == 0) = true := beq_iff_eq.mpr c6
  have cG : (cv != 0) = false := bne_eq_false_iff_eq.mpr c6
  clear c6
  replace H := Option.bind_eq_some_iff.mp H
  obtain ⟨⟨au, aw, cD, cy⟩, A70, H⟩ := H
  replace H : (if cy = 0 then ((reach_Same.f k au aw av ar).bind fun bs => (if bs = true then ((graftwoodref11_Ints.f k bi cD).bind fun bf => (if bf = true then (graftwoodlaw15_ReachMore.j0 k ((ah.length : Int) != (wrap64 ((ar.length : Int) + (bi.length : Int)))) ao ah) else (graftwoodlaw15_ReachMore.j0 k true ao ah))) else (graftwoodlaw15_ReachMore.j0 k true ao ah))) else (graftwoodlaw15_ReachMore.j0 k true ao ah)) = some r := H
  have A7 := Aside0.mk A70
  clear A70
  have HC8 := Aside0.mk H
  clear H
  go_enter Try.func8, Try.ntmps8
  go_upto_region 6 with (first | ((with_reducible refine gate_dst (N := 3) rfl ?_); (try (refine gate_guard (by rfl) ?_; dsimp only)); refine box_event ?hg (N := 3) ?hd (cs := #[.slice bg l0_0.length bh, .slice a_ l0_1.length bb]) (t := 25) ?hr ?_; (case hd => rfl); (case hg => rfl); (case hr => first | (go_simp; done) | (go_simp; rfl)); intro ad hg w9 hbox hb; have ab := am (hbox); have bk := am ((by rw [hg]; exact (below_size (by repeat (first | (with_reducible first | exact HB.out | apply pA | apply pN | apply pD) | exact HB.out))) : w.heap.size ≤ ad)); have cR := am ((by rw [hg]; exact (below_size (by repeat (first | (with_reducible first | exact HB.out | apply pA | apply pN | apply pD) | exact HB.out))) : w.heap.size ≤ ad)); replace HB := am (below_step (by repeat (first | (with_reducible first | exact HB.out | apply pA | apply pN | apply pD) | exact HB.out)) hb); clear hb hbox hg; have bv : w9.cell? ⟨ad, 0, none⟩ = some (.slice bg l0_0.length bh) := cT ab 0; have bw : w9.cell? ⟨ad, 1, none⟩ = some (.slice a_ l0_1.length bb) := cT ab 1; have bx := blk_frozen ab.out 0; have bz := blk_frozen ab.out 1) | ((with_reducible refine gate_callee (f := 10) rfl ?_); refine gL (some 18) Try.func10 #[.agg #[.slice bg l0_0.length bh, .slice a_ l0_1.length bb]] ?_; (with_reducible refine (graftwoodlaw15_Few.calls (fun k_ => k_ < w.heap.size) _ _ l0_0 (fun k_ => k_ < w.heap.size) _ _ l0_1 av ar _ ?side1 ?side2 A4.out).mono ?_); (case side1 => exact Kd.V_mk cN.out (Kd.F_below (Kd.C_F k36_heap cM.out) (by repeat (first | (with_reducible first | exact HB.out | apply pA | apply pN | apply pD | refine eU ?_ (by assumption)) | exact HB.out)))); (case side2 => exact Kd.V_mk cP.out (Kd.F_below (Kd.C_F (Kd.heap_int .i64) cO.out) (by repeat (first | (with_reducible first | exact HB.out | apply pA | apply pN | apply pD | refine eU ?_ (by assumption)) | exact HB.out)))); rintro e w11 ⟨dG, dH, rfl, ho0, ho1, hb⟩; refine ⟨_, rfl, ?_⟩; have ap := am (Kd.V_lower (Kd.V_mono (ok' := fun k_ => k_ ≠ ad) ho0 (fun k_ hk_ => Or.elim hk_ (fun hs_ => Or.elim hs_ (fun hs_ => fun e_ => Nat.not_le.2 hs_ (by rw [e_]; exact bk.out)) (fun hs_ => fun e_ => Nat.not_le.2 hs_ (by rw [e_]; exact bk.out))) (fun hn_ => (Kd.freshB (g := ad) (o := .cells #[.slice bg l0_0.length bh, .slice a_ l0_1.length bb] 25 (0, 0)) (bT ab.out) k_ hn_)))) (below_size (by repeat (first | (with_reducible first | exact HB.out | apply pA | apply pN | apply pD | refine eU ?_ (by assumption)) | exact HB.out)))); have aq := am (Kd.V_lower (Kd.V_mono (ok' := fun k_ => k_ ≠ ad) ho1 (fun k_ hk_ => Or.elim hk_ (fun hs_ => Or.elim hs_ (fun hs_ => fun e_ => Nat.not_le.2 hs_ (by rw [e_]; exact bk.out)) (fun hs_ => fun e_ => Nat.not_le.2 hs_ (by rw [e_]; exact bk.out))) (fun hn_ => (Kd.freshB (g := ad) (o := .cells #[.slice bg l0_0.length bh, .slice a_ l0_1.length bb] 25 (0, 0)) (bT ab.out) k_ hn_)))) (below_size (by repeat (first | (with_reducible first | exact HB.out | apply pA | apply pN | apply pD | refine eU ?_ (by assumption)) | exact HB.out)))); replace ab := am (bB ab.out hb); replace HB := am (below_step (by repeat (first | (with_reducible first | exact HB.out | apply pA | apply pN | apply pD | refine eU ?_ (by assumption)) | exact HB.out)) hb); (try clear hb); (try clear hb2); (try clear hk); (try clear hi); (try clear ho0); (try clear ho1); obtain ⟨aW, aK, dI⟩ := Kd.V_slice ap.out; subst dI; have bC : w11.cell? ⟨ad, 0, none⟩ = some (.slice bg l0_0.length bh) := cT ab 0; have bD : w11.cell? ⟨ad, 1, none⟩ = some (.slice a_ l0_1.length bb) := cT ab 1; have bE := blk_frozen ab.out 0; have bF := blk_frozen ab.out 1; obtain ⟨aY, aN, dJ⟩ := Kd.V_slice aq.out; subst dJ) | ((with_reducible refine gate_store (t := 25) (p := 3) rfl ?_); refine store_event (t := 25) (p := 3) (v := ?vo_w15) (w1 := ((w11.setCell ⟨ad, 0, none⟩ (.slice aW av.length aK)).setCell ⟨ad, 1, none⟩ (.slice aY ar.length aN))) ?hg ?ho ?hn ?hr ?_; (case ho => rfl); (case hg => rfl); (case hn => rfl); (case hr => first | (go_simp; done) | (go_simp; rfl)); intro w15 hw; have n0_ : Aside0 (Kd.V k36 36 w15 w.heap.size (fun k_ => k_ ≠ ad) (.slice aW av.length aK) av) := ⟨(by rw [hw]; exact (by (with_reducible repeat (first | apply Kd.V_alloc | apply Kd.V_drewN | apply Kd.V_drew)); exact Kd.V_mono (Kd.V_far (p := ⟨ad, 1, none⟩) (Kd.V_far (p := ⟨ad, 0, none⟩) (Kd.V_mono ap.out (fun k_ hk => (⟨hk, hk⟩ : _ ∧ k_ ≠ ad))) (fun _ hk => hk.2) (.slice aW av.length aK)) (fun _ hk => hk.2) (.slice aY ar.length aN)) (fun _ hk => hk.1)))⟩; have n1_ : Aside0 (Kd.V (Kd.int .i64) 3 w15 w.heap.size (fun k_ => k_ ≠ ad) (.slice aY ar.length aN) ar) := ⟨(by rw [hw]; exact (by (with_reducible repeat (first | apply Kd.V_alloc | apply Kd.V_drewN | apply Kd.V_drew)); exact Kd.V_mono (Kd.V_far (p := ⟨ad, 1, none⟩) (Kd.V_far (p := ⟨ad, 0, none⟩) (Kd.V_mono aq.out (fun k_ hk => (⟨hk, hk⟩ : _ ∧ k_ ≠ ad))) (fun _ hk => hk.2) (.slice aW av.length aK)) (fun _ hk => hk.2) (.slice aY ar.length aN)) (fun _ hk => hk.1)))⟩; have n2_ : Aside0 (w15.heap[ad]? = some (.cells #[.slice aW av.length aK, .slice aY ar.length aN] 25 (0, 0))) := ⟨(by rw [hw]; exact (by (with_reducible repeat (first | apply bn | apply bd | apply ba)); refine blk_put (cs := #[.slice aW av.length aK, .slice a_ l0_1.length bb]) ?_ 1 _ rfl; (with_reducible repeat (first | apply bn | apply bd | apply ba)); refine blk_put (cs := #[.slice bg l0_0.length bh, .slice a_ l0_1.length bb]) ?_ 0 _ rfl; exact bT ab.out))⟩; have n3_ : Aside0 (Below w.heap.size w w15) := ⟨(by rw [hw]; exact (by repeat (first | (with_reducible first | exact HB.out | apply pA | apply pN | apply pD | refine eU ?_ (by assumption)) | exact HB.out)))⟩; clear hw ap aq ab HB; have ap := n0_; have aq := n1_; have ab := n2_; have HB := n3_; clear n0_ n1_ n2_ n3_; have bG : w15.cell? ⟨ad, 0, none⟩ = some (.slice aW av.length aK) := cT ab 0; have bH : w15.cell? ⟨ad, 1, none⟩ = some (.slice aY ar.length aN) := cT ab 1; have bI := blk_frozen ab.out 0; have bJ := blk_frozen ab.out 1) | ((with_reducible refine gate_callee (f := 11) rfl ?_); refine gL (some 23) Try.func11 #[.agg #[.slice aW av.length aK, .slice aY ar.length aN], .int .i64 a1, .int .i64 a2] ?_; (with_reducible refine (reach_Link.calls k (fun k_ => k_ ≠ ad) _ _ av (fun k_ => k_ ≠ ad) _ _ ar a1 a2 ao ah bi cv _ ?side1 ?side2 A5.out).mono ?_); (case side1 => exact ap.out); (case side2 => exact aq.out); rintro e w17 ⟨dK, dL, aL, rfl, ho0, ho1, ho2, hb⟩; refine ⟨_, rfl, ?_⟩; replace ap := am (Kd.V_elder' (vT ap.out) (Kd.R_base ho2) hb); replace aq := am (Kd.V_elder' (vT aq.out) (Kd.R_base ho2) hb); have aD := am (Kd.V_lower (Kd.V_mono (ok' := fun k_ => some k_ ≠ (aL : Value).ownBlock ∧ k_ ≠ ad) ho0 (fun k_ hk_ => ⟨hk_.2, Or.elim hk_.1 (fun hs_ => Or.elim hs_ (fun hs_ => hs_) (fun hs_ => hs_)) (fun hn_ => (Kd.freshB (g := ad) (o := .cells #[.slice aW av.length aK, .slice aY ar.length aN] 25 (0, 0)) (bT ab.out) k_ hn_))⟩)) (below_size (by repeat (first | (with_reducible first | exact HB.out | apply pA | apply pN | apply pD | refine eU ?_ (by assumption)) | exact HB.out)))); have aE := am (Kd.V_lower (Kd.V_mono (ok' := fun k_ => some k_ ≠ (aL : Value).ownBlock ∧ k_ ≠ ad) ho1 (fun k_ hk_ => ⟨hk_.2, Or.elim hk_.1 (fun hs_ => Or.elim hs_ (fun hs_ => hs_) (fun hs_ => hs_)) (fun hn_ => (Kd.freshB (g := ad) (o := .cells #[.slice aW av.length aK, .slice aY ar.length aN] 25 (0, 0)) (bT ab.out) k_ hn_))⟩)) (below_size (by repeat (first | (with_reducible first | exact HB.out | apply pA | apply pN | apply pD | refine eU ?_ (by assumption)) | exact HB.out)))); have aF := am (Kd.R_lower (Kd.R_mono (ok' := fun k_ => True) ho2 (fun _ hk_ => trivial)) (below_size (by repeat (first | (with_reducible first | exact HB.out | apply pA | apply pN | apply pD | refine eU ?_ (by assumption)) | exact HB.out)))); replace ab := am (bB ab.out hb); replace HB := am (below_step (by repeat (first | (with_reducible first | exact HB.out | apply pA | apply pN | apply pD | refine eU ?_ (by assumption)) | exact HB.out)) hb); (try clear hb); (try clear hb2); (try clear hk); (try clear hi); (try clear ho0); (try clear ho1); (try clear ho2)) | ((with_reducible refine gate_dst (N := 7) rfl ?_); (try (refine gate_guard (by rfl) ?_; dsimp only)); refine box_event ?hg (N := 7) ?hd (cs := #[.slice none 0 0, .slice none 0 0]) (t := 25) ?hr ?_; (case hd => rfl); (case hg => rfl); (case hr => first | (go_simp; done) | (go_simp; rfl)); intro ac hg w18 hbox hb; replace ap := am (Kd.V_below (Kd.V_elderB (vT ap.out) ac (Nat.le_of_eq hg.symm)) hb); replace aq := am (Kd.V_below (Kd.V_elderB (vT aq.out) ac (Nat.le_of_eq hg.symm)) hb); replace aD := am (Kd.V_below (Kd.V_elderB (vT aD.out) ac (Nat.le_of_eq hg.symm)) hb); replace aE := am (Kd.V_below (Kd.V_elderB (vT aE.out) ac (Nat.le_of_eq hg.symm)) hb); replace aF := am (rB aF.out hb); have ae := am (hbox); have cS := am ((by rw [hg]; exact (below_size (by repeat (first | (with_reducible first | exact HB.out | apply pA | apply pN | apply pD | refine eU ?_ (by assumption)) | exact HB.out))) : w.heap.size ≤ ac)); have cU := am ((by rw [hg]; exact (below_size (by repeat (first | (with_reducible first | exact HB.out | apply pA | apply pN | apply pD | refine eU ?_ (by assumption)) | exact HB.out))) : w.heap.size ≤ ac)); have aG := am ((nT ab.out hg)); have aJ := am ((mT ab.out hg)); replace ab := am (bB ab.out hb); replace HB := am (below_step (by repeat (first | (with_reducible first | exact HB.out | apply pA | apply pN | apply pD | refine eU ?_ (by assumption)) | exact HB.out)) hb); clear hb hbox hg; obtain ⟨aU, aV, dM⟩ := Kd.V_slice aD.out; subst dM; have d3 := aJ.out; have d4 := aG.out; have bK : w18.cell? ⟨ac, 0, none⟩ = some (.slice none 0 0) := cT ae 0; have bL : w18.cell? ⟨ac, 1, none⟩ = some (.slice none 0 0) := cT ae 1; have bM := blk_frozen ae.out 0; have bN := blk_frozen ae.out 1; obtain ⟨a5, aX, dN⟩ := Kd.V_slice aE.out; subst dN) | ((with_reducible refine gate_store (t := 25) (p := 7) rfl ?_); refine store_event (t := 25) (p := 7) (v := ?vo_w23) (w1 := ((w18.setCell ⟨ac, 0, none⟩ (.slice aU ao.length aV)).setCell ⟨ac, 1, none⟩ (.slice a5 ah.length aX))) ?hg ?ho ?hn ?hr ?_; (case ho => rfl); (case hg => rfl); (case hn => rfl); (case hr => first | (go_simp; done) | (go_simp; rfl)); intro w23 hw; have n0_ : Aside0 (Kd.V k36 36 w23 w.heap.size (fun k_ => some k_ ≠ (aL : Value).ownBlock ∧ k_ ≠ ad ∧ k_ ≠ ac) (.slice aW av.length aK) av) := ⟨(by rw [hw]; exact (by (with_reducible repeat (first | apply Kd.V_alloc | apply Kd.V_drewN | apply Kd.V_drew)); exact Kd.V_mono (Kd.V_far (p := ⟨ac, 1, none⟩) (Kd.V_far (p := ⟨ac, 0, none⟩) (Kd.V_mono ap.out (fun k_ hk => (⟨hk, hk.2⟩ : _ ∧ k_ ≠ ac))) (fun _ hk => hk.2) (.slice aU ao.length aV)) (fun _ hk => hk.2) (.slice a5 ah.length aX)) (fun _ hk => ⟨hk.1.1.2, ⟨hk.1.1.1, hk.1.2⟩⟩)))⟩; have n1_ : Aside0 (Kd.V (Kd.int .i64) 3 w23 w.heap.size (fun k_ => some k_ ≠ (aL : Value).ownBlock ∧ k_ ≠ ad ∧ k_ ≠ ac) (.slice aY ar.length aN) ar) := ⟨(by rw [hw]; exact (by (with_reducible repeat (first | apply Kd.V_alloc | apply Kd.V_drewN | apply Kd.V_drew)); exact Kd.V_mono (Kd.V_far (p := ⟨ac, 1, none⟩) (Kd.V_far (p := ⟨ac, 0, none⟩) (Kd.V_mono aq.out (fun k_ hk => (⟨hk, hk.2⟩ : _ ∧ k_ ≠ ac))) (fun _ hk => hk.2) (.slice aU ao.length aV)) (fun _ hk => hk.2) (.slice a5 ah.length aX)) (fun _ hk => ⟨hk.1.1.2, ⟨hk.1.1.1, hk.1.2⟩⟩)))⟩; have n2_ : Aside0 (Kd.V k36 36 w23 w.heap.size (fun k_ => some k_ ≠ (aL : Value).ownBlock ∧ k_ ≠ ad ∧ k_ ≠ ac) (.slice aU ao.length aV) ao) := ⟨(by rw [hw]; exact (by (with_reducible repeat (first | apply Kd.V_alloc | apply Kd.V_drewN | apply Kd.V_drew)); exact Kd.V_mono (Kd.V_far (p := ⟨ac, 1, none⟩) (Kd.V_far (p := ⟨ac, 0, none⟩) (Kd.V_mono aD.out (fun k_ hk => (⟨hk, hk.2⟩ : _ ∧ k_ ≠ ac))) (fun _ hk => hk.2) (.slice aU ao.length aV)) (fun _ hk => hk.2) (.slice a5 ah.length aX)) (fun _ hk => ⟨hk.1.1.1, ⟨hk.1.1.2, hk.1.2⟩⟩)))⟩; have n3_ : Aside0 (Kd.V (Kd.int .i64) 3 w23 w.heap.size (fun k_ => some k_ ≠ (aL : Value).ownBlock ∧ k_ ≠ ad ∧ k_ ≠ ac) (.slice a5 ah.length aX) ah) := ⟨(by rw [hw]; exact (by (with_reducible repeat (first | apply Kd.V_alloc | apply Kd.V_drewN | apply Kd.V_drew)); exact Kd.V_mono (Kd.V_far (p := ⟨ac, 1, none⟩) (Kd.V_far (p := ⟨ac, 0, none⟩) (Kd.V_mono aE.out (fun k_ hk => (⟨hk, hk.2⟩ : _ ∧ k_ ≠ ac))) (fun _ hk => hk.2) (.slice aU ao.length aV)) (fun _ hk => hk.2) (.slice a5 ah.length aX)) (fun _ hk => ⟨hk.1.1.1, ⟨hk.1.1.2, hk.1.2⟩⟩)))⟩; have n4_ : Aside0 (Kd.R (Kd.int .i64) 3 w23 w.heap.size (fun _ => True) aL bi) := ⟨(by rw [hw]; exact (by (with_reducible repeat (first | apply Kd.R_alloc | apply Kd.R_drewN | apply Kd.R_drew)); exact Kd.R_mono (Kd.R_far (p := ⟨ac, 1, none⟩) (Kd.R_far (p := ⟨ac, 0, none⟩) (Kd.R_types aF.out ae.out (by decide)) (fun _ hk => hk.2) (.slice aU ao.length aV)) (fun _ hk => hk.2) (.slice a5 ah.length aX)) (fun _ hk => trivial)))⟩; have n5_ : Aside0 (w23.heap[ad]? = some (.cells #[.slice aW av.length aK, .slice aY ar.length aN] 25 (0, 0))) := ⟨(by rw [hw]; exact (by (with_reducible repeat (first | apply bn | apply bd | apply ba)); refine blk_far ?_ aG.out _; (with_reducible repeat (first | apply bn | apply bd | apply ba)); refine blk_far ?_ aG.out _; exact bT ab.out))⟩; have n6_ : Aside0 (w23.heap[ac]? = some (.cells #[.slice aU ao.length aV, .slice a5 ah.length aX] 25 (0, 0))) := ⟨(by rw [hw]; exact (by (with_reducible repeat (first | apply bn | apply bd | apply ba)); refine blk_put (cs := #[.slice aU ao.length aV, .slice none 0 0]) ?_ 1 _ rfl; (with_reducible repeat (first | apply bn | apply bd | apply ba)); refine blk_put (cs := #[.slice none 0 0, .slice none 0 0]) ?_ 0 _ rfl; exact bT ae.out))⟩; have n7_ : Aside0 (Below w.heap.size w w23) := ⟨(by rw [hw]; exact (by repeat (first | (with_reducible first | exact HB.out | apply pA | apply pN | apply pD | refine eU ?_ (by assumption)) | exact HB.out)))⟩; clear hw ap aq aD aE aF ab ae HB; have ap := n0_; have aq := n1_; have aD := n2_; have aE := n3_; have aF := n4_; have ab := n5_; have ae := n6_; have HB := n7_; clear n0_ n1_ n2_ n3_ n4_ n5_ n6_ n7_; have bO : w23.cell? ⟨ac, 0, none⟩ = some (.slice aU ao.length aV) := cT ae 0; have bP : w23.cell? ⟨ac, 1, none⟩ = some (.slice a5 ah.length aX) := cT ae 1; have bQ := blk_frozen ae.out 0; have bR := blk_frozen ae.out 1) | ((with_reducible refine gate_callee (f := 20) rfl ?_); refine gL (some 39) Try.func20 #[.agg #[.slice aU ao.length aV, .slice a5 ah.length aX], .int .i64 a1, .int .i64 a2] ?_; (with_reducible refine (reach_Unlink.calls k (fun k_ => (some k_ ≠ (aL : Value).ownBlock ∧ (k_ ≠ ad ∧ k_ ≠ ac))) _ _ ao (fun k_ => (some k_ ≠ (aL : Value).ownBlock ∧ (k_ ≠ ad ∧ k_ ≠ ac))) _ _ ah a1 a2 au aw cD cy _ ?side1 ?side2 A7.out).mono ?_); (case side1 => exact aD.out); (case side2 => exact aE.out); rintro e w25 ⟨eB, eC, bl, rfl, ho0, ho1, ho2, hb⟩; refine ⟨_, rfl, ?_⟩; replace ap := am (Kd.V_elder' (vT ap.out) (Kd.R_base ho2) hb); replace aq := am (Kd.V_elder' (vT aq.out) (Kd.R_base ho2) hb); replace aD := am (Kd.V_elder' (vT aD.out) (Kd.R_base ho2) hb); replace aE := am (Kd.V_elder' (vT aE.out) (Kd.R_base ho2) hb); have aO := am (Kd.V_lower (Kd.V_mono (ok' := fun k_ => some k_ ≠ (bl : Value).ownBlock ∧ some k_ ≠ (aL : Value).ownBlock ∧ k_ ≠ ad ∧ k_ ≠ ac) ho0 (fun k_ hk_ => ⟨hk_.2, Or.elim hk_.1 (fun hs_ => Or.elim hs_ (fun hs_ => hs_.1) (fun hs_ => hs_.1)) (fun hn_ => (Kd.fresh' (Kd.R_lt (rT aF.out)) k_ hn_)), Or.elim hk_.1 (fun hs_ => Or.elim hs_ (fun hs_ => hs_.2.1) (fun hs_ => hs_.2.1)) (fun hn_ => (Kd.freshB (g := ad) (o := .cells #[.slice aW av.length aK, .slice aY ar.length aN] 25 (0, 0)) (bT ab.out) k_ hn_)), Or.elim hk_.1 (fun hs_ => Or.elim hs_ (fun hs_ => hs_.2.2) (fun hs_ => hs_.2.2)) (fun hn_ => (Kd.freshB (g := ac) (o := .cells #[.slice aU ao.length aV, .slice a5 ah.length aX] 25 (0, 0)) (bT ae.out) k_ hn_))⟩)) (below_size (by repeat (first | (with_reducible first | exact HB.out | apply pA | apply pN | apply pD | refine eU ?_ (by assumption)) | exact HB.out)))); have aP := am (Kd.V_lower (Kd.V_mono (ok' := fun k_ => some k_ ≠ (bl : Value).ownBlock ∧ some k_ ≠ (aL : Value).ownBlock ∧ k_ ≠ ad ∧ k_ ≠ ac) ho1 (fun k_ hk_ => ⟨hk_.2, Or.elim hk_.1 (fun hs_ => Or.elim hs_ (fun hs_ => hs_.1) (fun hs_ => hs_.1)) (fun hn_ => (Kd.fresh' (Kd.R_lt (rT aF.out)) k_ hn_)), Or.elim hk_.1 (fun hs_ => Or.elim hs_ (fun hs_ => hs_.2.1) (fun hs_ => hs_.2.1)) (fun hn_ => (Kd.freshB (g := ad) (o := .cells #[.slice aW av.length aK, .slice aY ar.length aN] 25 (0, 0)) (bT ab.out) k_ hn_)), Or.elim hk_.1 (fun hs_ => Or.elim hs_ (fun hs_ => hs_.2.2) (fun hs_ => hs_.2.2)) (fun hn_ => (Kd.freshB (g := ac) (o := .cells #[.slice aU ao.length aV, .slice a5 ah.length aX] 25 (0, 0)) (bT ae.out) k_ hn_))⟩)) (below_size (by repeat (first | (with_reducible first | exact HB.out | apply pA | apply pN | apply pD | refine eU ?_ (by assumption)) | exact HB.out)))); have a6 := am (Kd.R_lower (Kd.R_new' (Kd.R_mono (ok' := fun k_ => True) ho2 (fun _ hk_ => trivial)) (Kd.R_lt (rT aF.out))) (below_size (by repeat (first | (with_reducible first | exact HB.out | apply pA | apply pN | apply pD | refine eU ?_ (by assumption)) | exact HB.out)))); replace aF := am (Kd.R_elder' (rT aF.out) (Kd.R_base ho2) hb); replace ab := am (bB ab.out hb); replace ae := am (bB ae.out hb); replace HB := am (below_step (by repeat (first | (with_reducible first | exact HB.out | apply pA | apply pN | apply pD | refine eU ?_ (by assumption)) | exact HB.out)) hb); (try clear hb); (try clear hb2); (try clear hk); (try clear hi); (try clear ho0); (try clear ho1); (try clear ho2)) | ((with_reducible refine gate_dst (N := 10) rfl ?_); (try (refine gate_guard (by rfl) ?_; dsimp only)); refine box_event ?hg (N := 10) ?hd (cs := #[.slice none 0 0, .slice none 0 0]) (t := 25) ?hr ?_; (case hd => rfl); (case hg => rfl); (case hr => first | (go_simp; done) | (go_simp; rfl)); intro aa hg w26 hbox hb; replace ap := am (Kd.V_below (Kd.V_elderB (vT ap.out) aa (Nat.le_of_eq hg.symm)) hb); replace aq := am (Kd.V_below (Kd.V_elderB (vT aq.out) aa (Nat.le_of_eq hg.symm)) hb); replace aD := am (Kd.V_below (Kd.V_elderB (vT aD.out) aa (Nat.le_of_eq hg.symm)) hb); replace aE := am (Kd.V_below (Kd.V_elderB (vT aE.out) aa (Nat.le_of_eq hg.symm)) hb); replace aF := am (rB aF.out hb); replace aO := am (Kd.V_below (Kd.V_elderB (vT aO.out) aa (Nat.le_of_eq hg.symm)) hb); replace aP := am (Kd.V_below (Kd.V_elderB (vT aP.out) aa (Nat.le_of_eq hg.symm)) hb); replace a6 := am (rB a6.out hb); have an := am (hbox); have d5 := am ((by rw [hg]; exact (below_size (by repeat (first | (with_reducible first | exact HB.out | apply pA | apply pN | apply pD | refine eU ?_ (by assumption)) | exact HB.out))) : w.heap.size ≤ aa)); have d6 := am ((by rw [hg]; exact (below_size (by repeat (first | (with_reducible first | exact HB.out | apply pA | apply pN | apply pD | refine eU ?_ (by assumption)) | exact HB.out))) : w.heap.size ≤ aa)); have aH := am ((nT ab.out hg)); have be := am ((mT ab.out hg)); have aB := am ((nT ae.out hg)); have a4 := am ((mT ae.out hg)); replace ab := am (bB ab.out hb); replace ae := am (bB ae.out hb); replace HB := am (below_step (by repeat (first | (with_reducible first | exact HB.out | apply pA | apply pN | apply pD | refine eU ?_ (by assumption)) | exact HB.out)) hb); clear hb hbox hg; obtain ⟨az, ay, dP⟩ := Kd.V_slice aO.out; subst dP; have d7 := be.out; have d8 := aH.out; have d9 := a4.out; have d_ := aB.out; have bS : w26.cell? ⟨aa, 0, none⟩ = some (.slice none 0 0) := cT an 0; have bU : w26.cell? ⟨aa, 1, none⟩ = some (.slice none 0 0) := cT an 1; have bV := blk_frozen an.out 0; have bW := blk_frozen an.out 1; obtain ⟨aC, aA, dQ⟩ := Kd.V_slice aP.out; subst dQ))
  (try simp only [Act.put, List.setIfInBounds_toArray, List.set_cons_zero, List.set_cons_succ])
  go_cut [68] (fun v68 wc => ∃ (kq : Nat) (cA : Bool), v68 = .bool cA ∧ Aside0 (graftwoodlaw15_ReachMore.j0 kq cA ao ah = some r) ∧ Aside0 (kq ≤ k) ∧ Aside0 (Kd.V k36 36 wc w.heap.size (fun k_ => k_ ≠ ad ∧ k_ ≠ ac ∧ k_ ≠ aa) (.slice aW av.length aK) av) ∧ Aside0 (Kd.V (Kd.int .i64) 3 wc w.heap.size (fun k_ => k_ ≠ ad ∧ k_ ≠ ac ∧ k_ ≠ aa) (.slice aY ar.length aN) ar) ∧ Aside0 (Kd.V k36 36 wc w.heap.size (fun k_ => k_ ≠ ad ∧ k_ ≠ ac ∧ k_ ≠ aa) (.slice aU ao.length aV) ao) ∧ Aside0 (Kd.V (Kd.int .i64) 3 wc w.heap.size (fun k_ => k_ ≠ ad ∧ k_ ≠ ac ∧ k_ ≠ aa) (.slice a5 ah.length aX) ah) ∧ Aside0 (Kd.V k36 36 wc w.heap.size (fun k_ => k_ ≠ ad ∧ k_ ≠ ac ∧ k_ ≠ aa) (.slice az au.length ay) au) ∧ Aside0 (Kd.V (Kd.int .i64) 3 wc w.heap.size (fun k_ => k_ ≠ ad ∧ k_ ≠ ac ∧ k_ ≠ aa) (.slice aC aw.length aA) aw) ∧ Aside0 (wc.heap[ad]? = some (.cells #[(.slice aW av.length aK), (.slice aY ar.length aN)] 25 (0, 0))) ∧ Aside0 (wc.heap[ac]? = some (.cells #[(.slice aU ao.length aV), (.slice a5 ah.length aX)] 25 (0, 0))) ∧ Aside0 (wc.heap[aa]? = some (.cells #[(.slice az au.length ay), (.slice aC aw.length aA)] 25 (0, 0))) ∧ Aside0 (Below w.heap.size w wc))
  case first =>
   have H := HC8.out
   clear HC8
   by_cases c32 : cy = 0
   ·rw [if_pos c32] at H
    have br : (cy == 0) = true := beq_iff_eq.mpr c32
    have cB : (cy != 0) = false := bne_eq_false_iff_eq.mpr c32
    clear c32
    (first | rw [br] | (simp only [i64_w, i32_w]; rw [br]) | skip)
    replace H := Option.bind_eq_some_iff.mp H
    obtain ⟨bs, cV, H⟩ := H
    replace H : (if bs = true then ((graftwoodref11_Ints.f k bi cD).bind fun bf => (if bf = true then (graftwoodlaw15_ReachMore.j0 k ((ah.length : Int) != (wrap64 ((ar.length : Int) + (bi.length : Int)))) ao ah) else (graftwoodlaw15_ReachMore.j0 k true ao ah))) else (graftwoodlaw15_ReachMore.j0 k true ao ah)) = some r := H
    have A33 := Aside0.mk cV
    clear cV
    by_cases c34 : bs = true
    ·subst c34
     have H1 : ((graftwoodref11_Ints.f k bi cD).bind fun bf => (if bf = true then (graftwoodlaw15_ReachMore.j0 k ((ah.length : Int) != (wrap64 ((ar.length : Int) + (bi.length : Int)))) ao ah) else (graftwoodlaw15_ReachMore.j0 k true ao ah))) = some r := by rw [if_pos rfl] at H; exact H
     clear H
     have H := H1
     clear H1
     replace H := Option.bind_eq_some_iff.mp H
     obtain ⟨bf, cX, H⟩ := H
     replace H : (if bf = true then (graftwoodlaw15_ReachMore.j0 k ((ah.length : Int) != (wrap64 ((ar.length : Int) + (bi.length : Int)))) ao ah) else (graftwoodlaw15_ReachMore.j0 k true ao ah)) = some r := H
     have A35 := Aside0.mk cX
     clear cX
     by_cases c36 : bf = true
     ·subst c36
      have H1 : (graftwoodlaw15_ReachMore.j0 k ((ah.length : Int) != (wrap64 ((ar.length : Int) + (bi.length : Int)))) ao ah) = some r := by rw [if_pos rfl] at H; exact H
      clear H
      have H := H1
      clear H1
      have H' := Aside0.mk H
      clear H
      have ea := be.out
      have eb := aH.out
      have ec := a4.out
      have ed := aB.out
      have bX : w26.cell? ⟨aa, 0, none⟩ = some (.slice none 0 0) := cT an 0
      have bZ : w26.cell? ⟨aa, 1, none⟩ = some (.slice none 0 0) := cT an 1
      have b0 := blk_frozen an.out 0
      have b1 := blk_frozen an.out 1
      have ee := aG.out
      have ef := aJ.out
      have b2 : w26.cell? ⟨ad, 0, none⟩ = some (.slice aW av.length aK) := cT ab 0
      have b3 : w26.cell? ⟨ad, 1, none⟩ = some (.slice aY ar.length aN) := cT ab 1
      have b4 := blk_frozen ab.out 0
      have b5 := blk_frozen ab.out 1
      go_wp2_with (first | (go_at_call 27; (with_reducible refine (reach_Same.calls k _ _ au _ _ aw _ _ av _ _ ar true _ ?side1 ?side2 ?side3 ?side4 ?side5 ?side6 ?side7 ?side8 A33.out).mono ?_); (case side1 => refine (Kd.V_reads' (e := 36) (base := w.heap.size) (ok := fun k_ => ((some k_ ≠ (bl : Value).ownBlock ∧ (some k_ ≠ (aL : Value).ownBlock ∧ (k_ ≠ ad ∧ k_ ≠ ac))) ∧ k_ ≠ aa)) (n := au.length) (c := ay) ?_).2.2; exact (by (with_reducible repeat (first | apply Kd.V_alloc | apply Kd.V_drewN | apply Kd.V_drew)); exact (Kd.V_mono (Kd.V_far (p := ⟨aa, 1, none⟩) (Kd.V_far (p := ⟨aa, 0, none⟩) (Kd.V_mono aO.out (fun k_ hk => (⟨hk, hk.2⟩ : _ ∧ k_ ≠ aa))) (fun _ hk => hk.2) (.slice az au.length ay)) (fun _ hk => hk.2) (.slice aC aw.length aA)) (fun _ h_ => h_.1)))); (case side2 => exact (Kd.V_reads' aO.out).2.1); (case side3 => refine (Kd.V_reads' (e := 3) (base := w.heap.size) (ok := fun k_ => ((some k_ ≠ (bl : Value).ownBlock ∧ (some k_ ≠ (aL : Value).ownBlock ∧ (k_ ≠ ad ∧ k_ ≠ ac))) ∧ k_ ≠ aa)) (n := aw.length) (c := aA) ?_).2.2; exact (by (with_reducible repeat (first | apply Kd.V_alloc | apply Kd.V_drewN | apply Kd.V_drew)); exact (Kd.V_mono (Kd.V_far (p := ⟨aa, 1, none⟩) (Kd.V_far (p := ⟨aa, 0, none⟩) (Kd.V_mono aP.out (fun k_ hk => (⟨hk, hk.2⟩ : _ ∧ k_ ≠ aa))) (fun _ hk => hk.2) (.slice az au.length ay)) (fun _ hk => hk.2) (.slice aC aw.length aA)) (fun _ h_ => h_.1)))); (case side4 => exact (Kd.V_reads' aP.out).2.1); (case side5 => refine (Kd.V_reads' (e := 36) (base := w.heap.size) (ok := fun k_ => (((some k_ ≠ (aL : Value).ownBlock ∧ (k_ ≠ ad ∧ k_ ≠ ac)) ∧ some k_ ≠ (bl : Value).ownBlock) ∧ k_ ≠ aa)) (n := av.length) (c := aK) ?_).2.2; exact (by (with_reducible repeat (first | apply Kd.V_alloc | apply Kd.V_drewN | apply Kd.V_drew)); exact (Kd.V_mono (Kd.V_far (p := ⟨aa, 1, none⟩) (Kd.V_far (p := ⟨aa, 0, none⟩) (Kd.V_mono ap.out (fun k_ hk => (⟨hk, hk.2⟩ : _ ∧ k_ ≠ aa))) (fun _ hk => hk.2) (.slice az au.length ay)) (fun _ hk => hk.2) (.slice aC aw.length aA)) (fun _ h_ => h_.1)))); (case side6 => exact (Kd.V_reads' ap.out).2.1); (case side7 => refine (Kd.V_reads' (e := 3) (base := w.heap.size) (ok := fun k_ => (((some k_ ≠ (aL : Value).ownBlock ∧ (k_ ≠ ad ∧ k_ ≠ ac)) ∧ some k_ ≠ (bl : Value).ownBlock) ∧ k_ ≠ aa)) (n := ar.length) (c := aN) ?_).2.2; exact (by (with_reducible repeat (first | apply Kd.V_alloc | apply Kd.V_drewN | apply Kd.V_drew)); exact (Kd.V_mono (Kd.V_far (p := ⟨aa, 1, none⟩) (Kd.V_far (p := ⟨aa, 0, none⟩) (Kd.V_mono aq.out (fun k_ hk => (⟨hk, hk.2⟩ : _ ∧ k_ ≠ aa))) (fun _ hk => hk.2) (.slice az au.length ay)) (fun _ hk => hk.2) (.slice aC aw.length aA)) (fun _ h_ => h_.1)))); (case side8 => exact (Kd.V_reads' aq.out).2.1); rintro e w42 ⟨rfl, hb⟩; replace ap := am (Kd.V_below (by (with_reducible repeat (first | apply Kd.V_alloc | apply Kd.V_drewN | apply Kd.V_drew)); exact (Kd.V_mono (Kd.V_far (p := ⟨aa, 1, none⟩) (Kd.V_far (p := ⟨aa, 0, none⟩) (Kd.V_mono ap.out (fun k_ hk => (⟨hk, hk.2⟩ : _ ∧ k_ ≠ aa))) (fun _ hk => hk.2) (.slice az au.length ay)) (fun _ hk => hk.2) (.slice aC aw.length aA)) (fun _ h_ => h_.1))) hb); replace aq := am (Kd.V_below (by (with_reducible repeat (first | apply Kd.V_alloc | apply Kd.V_drewN | apply Kd.V_drew)); exact (Kd.V_mono (Kd.V_far (p := ⟨aa, 1, none⟩) (Kd.V_far (p := ⟨aa, 0, none⟩) (Kd.V_mono aq.out (fun k_ hk => (⟨hk, hk.2⟩ : _ ∧ k_ ≠ aa))) (fun _ hk => hk.2) (.slice az au.length ay)) (fun _ hk => hk.2) (.slice aC aw.length aA)) (fun _ h_ => h_.1))) hb); replace aD := am (Kd.V_below (by (with_reducible repeat (first | apply Kd.V_alloc | apply Kd.V_drewN | apply Kd.V_drew)); exact (Kd.V_mono (Kd.V_far (p := ⟨aa, 1, none⟩) (Kd.V_far (p := ⟨aa, 0, none⟩) (Kd.V_mono aD.out (fun k_ hk => (⟨hk, hk.2⟩ : _ ∧ k_ ≠ aa))) (fun _ hk => hk.2) (.slice az au.length ay)) (fun _ hk => hk.2) (.slice aC aw.length aA)) (fun _ h_ => h_.1))) hb); replace aE := am (Kd.V_below (by (with_reducible repeat (first | apply Kd.V_alloc | apply Kd.V_drewN | apply Kd.V_drew)); exact (Kd.V_mono (Kd.V_far (p := ⟨aa, 1, none⟩) (Kd.V_far (p := ⟨aa, 0, none⟩) (Kd.V_mono aE.out (fun k_ hk => (⟨hk, hk.2⟩ : _ ∧ k_ ≠ aa))) (fun _ hk => hk.2) (.slice az au.length ay)) (fun _ hk => hk.2) (.slice aC aw.length aA)) (fun _ h_ => h_.1))) hb); replace aF := am (Kd.R_below (by (with_reducible repeat (first | apply Kd.R_alloc | apply Kd.R_drewN | apply Kd.R_drew)); exact (Kd.R_mono (Kd.R_far (p := ⟨aa, 1, none⟩) (Kd.R_far (p := ⟨aa, 0, none⟩) (Kd.R_types aF.out an.out (by decide)) (fun _ hk => hk.2) (.slice az au.length ay)) (fun _ hk => hk.2) (.slice aC aw.length aA)) (fun _ h_ => h_.1))) hb); replace aO := am (Kd.V_below (by (with_reducible repeat (first | apply Kd.V_alloc | apply Kd.V_drewN | apply Kd.V_drew)); exact (Kd.V_mono (Kd.V_far (p := ⟨aa, 1, none⟩) (Kd.V_far (p := ⟨aa, 0, none⟩) (Kd.V_mono aO.out (fun k_ hk => (⟨hk, hk.2⟩ : _ ∧ k_ ≠ aa))) (fun _ hk => hk.2) (.slice az au.length ay)) (fun _ hk => hk.2) (.slice aC aw.length aA)) (fun _ h_ => h_.1))) hb); replace aP := am (Kd.V_below (by (with_reducible repeat (first | apply Kd.V_alloc | apply Kd.V_drewN | apply Kd.V_drew)); exact (Kd.V_mono (Kd.V_far (p := ⟨aa, 1, none⟩) (Kd.V_far (p := ⟨aa, 0, none⟩) (Kd.V_mono aP.out (fun k_ hk => (⟨hk, hk.2⟩ : _ ∧ k_ ≠ aa))) (fun _ hk => hk.2) (.slice az au.length ay)) (fun _ hk => hk.2) (.slice aC aw.length aA)) (fun _ h_ => h_.1))) hb); replace a6 := am (Kd.R_below (by (with_reducible repeat (first | apply Kd.R_alloc | apply Kd.R_drewN | apply Kd.R_drew)); exact (Kd.R_mono (Kd.R_far (p := ⟨aa, 1, none⟩) (Kd.R_far (p := ⟨aa, 0, none⟩) (Kd.R_types a6.out an.out (by decide)) (fun _ hk => hk.2) (.slice az au.length ay)) (fun _ hk => hk.2) (.slice aC aw.length aA)) (fun _ h_ => h_.1))) hb); replace ab := am (blk_below (g := ad) (o := .cells #[.slice aW av.length aK, .slice aY ar.length aN] 25 (0, 0)) (by (with_reducible repeat (first | apply bn | apply bd | apply ba)); refine blk_far ?_ aH.out _; (with_reducible repeat (first | apply bn | apply bd | apply ba)); refine blk_far ?_ aH.out _; exact bT ab.out) hb); replace ae := am (blk_below (g := ac) (o := .cells #[.slice aU ao.length aV, .slice a5 ah.length aX] 25 (0, 0)) (by (with_reducible repeat (first | apply bn | apply bd | apply ba)); refine blk_far ?_ aB.out _; (with_reducible repeat (first | apply bn | apply bd | apply ba)); refine blk_far ?_ aB.out _; exact bT ae.out) hb); replace HB := am (below_step (by repeat (first | (with_reducible first | exact HB.out | apply pA | apply pN | apply pD | refine eU ?_ (by assumption)) | exact HB.out)) hb); replace an := am (blk_below (g := aa) (o := .cells #[.slice az au.length ay, .slice aC aw.length aA] 25 (0, 0)) (by (with_reducible repeat (first | apply bn | apply bd | apply ba)); refine blk_put (cs := #[.slice az au.length ay, .slice none 0 0]) ?_ 1 _ rfl; (with_reducible repeat (first | apply bn | apply bd | apply ba)); refine blk_put (cs := #[.slice none 0 0, .slice none 0 0]) ?_ 0 _ rfl; exact bT an.out) hb); (try clear hb); (try clear hb2); (try clear hk); (try clear hi); obtain ⟨eD, eE, dR⟩ := Kd.R_slice aF.out; subst dR; obtain ⟨eF, eG, dS⟩ := Kd.R_slice a6.out; subst dS) | (go_at_call 18; (with_reducible refine (graftwoodref11_Ints.calls k _ _ bi _ _ cD true _ ?side1 ?side2 ?side3 ?side4 A35.out).mono ?_); (case side1 => exact cW (Kd.R_reads' aF.out).2.2); (case side2 => exact (Kd.R_reads' aF.out).2.1); (case side3 => exact cW (Kd.R_reads' a6.out).2.2); (case side4 => exact (Kd.R_reads' a6.out).2.1); rintro e w' ⟨rfl, ⟨nd, rfl⟩⟩; have b6 : w42.cell? ⟨ac, 0, none⟩ = some (.slice aU ao.length aV) := cT ae 0; have b7 : w42.cell? ⟨ac, 1, none⟩ = some (.slice a5 ah.length aX) := cT ae 1; have b8 := blk_frozen ae.out 0; have b9 := blk_frozen ae.out 1; have b_ : w42.cell? ⟨ad, 0, none⟩ = some (.slice aW av.length aK) := cT ab 0; have ca : w42.cell? ⟨ad, 1, none⟩ = some (.slice aY ar.length aN) := cT ab 1; have cb := blk_frozen ab.out 0; have cc := blk_frozen ab.out 1))
      go_meet
      case rel => exact ⟨_, (((ah.length : Int) != (wrap64 ((ar.length : Int) + (bi.length : Int))))), (by first | rfl | (simp; done) | (simp [*]; done)), H', ⟨by first | omega | exact Nat.le_refl _⟩, ⟨by (with_reducible repeat (first | apply Kd.V_alloc | apply Kd.V_drewN | apply Kd.V_drew)); exact Kd.V_mono ap.out (fun _ hk => ⟨hk.1.1.2.1, ⟨hk.1.1.2.2, hk.2⟩⟩)⟩, ⟨by (with_reducible repeat (first | apply Kd.V_alloc | apply Kd.V_drewN | apply Kd.V_drew)); exact Kd.V_mono aq.out (fun _ hk => ⟨hk.1.1.2.1, ⟨hk.1.1.2.2, hk.2⟩⟩)⟩, ⟨by (with_reducible repeat (first | apply Kd.V_alloc | apply Kd.V_drewN | apply Kd.V_drew)); exact Kd.V_mono aD.out (fun _ hk => ⟨hk.1.1.2.1, ⟨hk.1.1.2.2, hk.2⟩⟩)⟩, ⟨by (with_reducible repeat (first | apply Kd.V_alloc | apply Kd.V_drewN | apply Kd.V_drew)); exact Kd.V_mono aE.out (fun _ hk => ⟨hk.1.1.2.1, ⟨hk.1.1.2.2, hk.2⟩⟩)⟩, ⟨by (with_reducible repeat (first | apply Kd.V_alloc | apply Kd.V_drewN | apply Kd.V_drew)); exact Kd.V_mono aO.out (fun _ hk => ⟨hk.1.2.2.1, ⟨hk.1.2.2.2, hk.2⟩⟩)⟩, ⟨by (with_reducible repeat (first | apply Kd.V_alloc | apply Kd.V_drewN | apply Kd.V_drew)); exact Kd.V_mono aP.out (fun _ hk => ⟨hk.1.2.2.1, ⟨hk.1.2.2.2, hk.2⟩⟩)⟩, ⟨bT ab.out⟩, ⟨bT ae.out⟩, ⟨bT an.out⟩, ⟨eT HB.out⟩⟩
     ·replace c36 := Bool.eq_false_iff.mpr c36
      subst c36
      have H1 : (graftwoodlaw15_ReachMore.j0 k true ao ah) = some r := by rw [if_neg (show ¬ (false = true) by decide)] at H; exact H
      clear H
      have H := H1
      clear H1
      have H' := Aside0.mk H
      clear H
      have eg := be.out
      have eh := aH.out
      have ei := a4.out
      have ej := aB.out
      have cd : w26.cell? ⟨aa, 0, none⟩ = some (.slice none 0 0) := cT an 0
      have ce : w26.cell? ⟨aa, 1, none⟩ = some (.slice none 0 0) := cT an 1
      have cf := blk_frozen an.out 0
      have cg := blk_frozen an.out 1
      have ek := aG.out
      have el := aJ.out
      have ch : w26.cell? ⟨ad, 0, none⟩ = some (.slice aW av.length aK) := cT ab 0
      have ci : w26.cell? ⟨ad, 1, none⟩ = some (.slice aY ar.length aN) := cT ab 1
      have cj := blk_frozen ab.out 0
      have ck := blk_frozen ab.out 1
      go_wp2_with (first | (go_at_call 27; (with_reducible refine (reach_Same.calls k _ _ au _ _ aw _ _ av _ _ ar true _ ?side1 ?side2 ?side3 ?side4 ?side5 ?side6 ?side7 ?side8 A33.out).mono ?_); (case side1 => refine (Kd.V_reads' (e := 36) (base := w.heap.size) (ok := fun k_ => ((some k_ ≠ (bl : Value).ownBlock ∧ (some k_ ≠ (aL : Value).ownBlock ∧ (k_ ≠ ad ∧ k_ ≠ ac))) ∧ k_ ≠ aa)) (n := au.length) (c := ay) ?_).2.2; exact (by (with_reducible repeat (first | apply Kd.V_alloc | apply Kd.V_drewN | apply Kd.V_drew)); exact (Kd.V_mono (Kd.V_far (p := ⟨aa, 1, none⟩) (Kd.V_far (p := ⟨aa, 0, none⟩) (Kd.V_mono aO.out (fun k_ hk => (⟨hk, hk.2⟩ : _ ∧ k_ ≠ aa))) (fun _ hk => hk.2) (.slice az au.length ay)) (fun _ hk => hk.2) (.slice aC aw.length aA)) (fun _ h_ => h_.1)))); (case side2 => exact (Kd.V_reads' aO.out).2.1); (case side3 => refine (Kd.V_reads' (e := 3) (base := w.heap.size) (ok := fun k_ => ((some k_ ≠ (bl : Value).ownBlock ∧ (some k_ ≠ (aL : Value).ownBlock ∧ (k_ ≠ ad ∧ k_ ≠ ac))) ∧ k_ ≠ aa)) (n := aw.length) (c := aA) ?_).2.2; exact (by (with_reducible repeat (first | apply Kd.V_alloc | apply Kd.V_drewN | apply Kd.V_drew)); exact (Kd.V_mono (Kd.V_far (p := ⟨aa, 1, none⟩) (Kd.V_far (p := ⟨aa, 0, none⟩) (Kd.V_mono aP.out (fun k_ hk => (⟨hk, hk.2⟩ : _ ∧ k_ ≠ aa))) (fun _ hk => hk.2) (.slice az au.length ay)) (fun _ hk => hk.2) (.slice aC aw.length aA)) (fun _ h_ => h_.1)))); (case side4 => exact (Kd.V_reads' aP.out).2.1); (case side5 => refine (Kd.V_reads' (e := 36) (base := w.heap.size) (ok := fun k_ => (((some k_ ≠ (aL : Value).ownBlock ∧ (k_ ≠ ad ∧ k_ ≠ ac)) ∧ some k_ ≠ (bl : Value).ownBlock) ∧ k_ ≠ aa)) (n := av.length) (c := aK) ?_).2.2; exact (by (with_reducible repeat (first | apply Kd.V_alloc | apply Kd.V_drewN | apply Kd.V_drew)); exact (Kd.V_mono (Kd.V_far (p := ⟨aa, 1, none⟩) (Kd.V_far (p := ⟨aa, 0, none⟩) (Kd.V_mono ap.out (fun k_ hk => (⟨hk, hk.2⟩ : _ ∧ k_ ≠ aa))) (fun _ hk => hk.2) (.slice az au.length ay)) (fun _ hk => hk.2) (.slice aC aw.length aA)) (fun _ h_ => h_.1)))); (case side6 => exact (Kd.V_reads' ap.out).2.1); (case side7 => refine (Kd.V_reads' (e := 3) (base := w.heap.size) (ok := fun k_ => (((some k_ ≠ (aL : Value).ownBlock ∧ (k_ ≠ ad ∧ k_ ≠ ac)) ∧ some k_ ≠ (bl : Value).ownBlock) ∧ k_ ≠ aa)) (n := ar.length) (c := aN) ?_).2.2; exact (by (with_reducible repeat (first | apply Kd.V_alloc | apply Kd.V_drewN | apply Kd.V_drew)); exact (Kd.V_mono (Kd.V_far (p := ⟨aa, 1, none⟩) (Kd.V_far (p := ⟨aa, 0, none⟩) (Kd.V_mono aq.out (fun k_ hk => (⟨hk, hk.2⟩ : _ ∧ k_ ≠ aa))) (fun _ hk => hk.2) (.slice az au.length ay)) (fun _ hk => hk.2) (.slice aC aw.length aA)) (fun _ h_ => h_.1)))); (case side8 => exact (Kd.V_reads' aq.out).2.1); rintro e w52 ⟨rfl, hb⟩; replace ap := am (Kd.V_below (by (with_reducible repeat (first | apply Kd.V_alloc | apply Kd.V_drewN | apply Kd.V_drew)); exact (Kd.V_mono (Kd.V_far (p := ⟨aa, 1, none⟩) (Kd.V_far (p := ⟨aa, 0, none⟩) (Kd.V_mono ap.out (fun k_ hk => (⟨hk, hk.2⟩ : _ ∧ k_ ≠ aa))) (fun _ hk => hk.2) (.slice az au.length ay)) (fun _ hk => hk.2) (.slice aC aw.length aA)) (fun _ h_ => h_.1))) hb); replace aq := am (Kd.V_below (by (with_reducible repeat (first | apply Kd.V_alloc | apply Kd.V_drewN | apply Kd.V_drew)); exact (Kd.V_mono (Kd.V_far (p := ⟨aa, 1, none⟩) (Kd.V_far (p := ⟨aa, 0, none⟩) (Kd.V_mono aq.out (fun k_ hk => (⟨hk, hk.2⟩ : _ ∧ k_ ≠ aa))) (fun _ hk => hk.2) (.slice az au.length ay)) (fun _ hk => hk.2) (.slice aC aw.length aA)) (fun _ h_ => h_.1))) hb); replace aD := am (Kd.V_below (by (with_reducible repeat (first | apply Kd.V_alloc | apply Kd.V_drewN | apply Kd.V_drew)); exact (Kd.V_mono (Kd.V_far (p := ⟨aa, 1, none⟩) (Kd.V_far (p := ⟨aa, 0, none⟩) (Kd.V_mono aD.out (fun k_ hk => (⟨hk, hk.2⟩ : _ ∧ k_ ≠ aa))) (fun _ hk => hk.2) (.slice az au.length ay)) (fun _ hk => hk.2) (.slice aC aw.length aA)) (fun _ h_ => h_.1))) hb); replace aE := am (Kd.V_below (by (with_reducible repeat (first | apply Kd.V_alloc | apply Kd.V_drewN | apply Kd.V_drew)); exact (Kd.V_mono (Kd.V_far (p := ⟨aa, 1, none⟩) (Kd.V_far (p := ⟨aa, 0, none⟩) (Kd.V_mono aE.out (fun k_ hk => (⟨hk, hk.2⟩ : _ ∧ k_ ≠ aa))) (fun _ hk => hk.2) (.slice az au.length ay)) (fun _ hk => hk.2) (.slice aC aw.length aA)) (fun _ h_ => h_.1))) hb); replace aF := am (Kd.R_below (by (with_reducible repeat (first | apply Kd.R_alloc | apply Kd.R_drewN | apply Kd.R_drew)); exact (Kd.R_mono (Kd.R_far (p := ⟨aa, 1, none⟩) (Kd.R_far (p := ⟨aa, 0, none⟩) (Kd.R_types aF.out an.out (by decide)) (fun _ hk => hk.2) (.slice az au.length ay)) (fun _ hk => hk.2) (.slice aC aw.length aA)) (fun _ h_ => h_.1))) hb); replace aO := am (Kd.V_below (by (with_reducible repeat (first | apply Kd.V_alloc | apply Kd.V_drewN | apply Kd.V_drew)); exact (Kd.V_mono (Kd.V_far (p := ⟨aa, 1, none⟩) (Kd.V_far (p := ⟨aa, 0, none⟩) (Kd.V_mono aO.out (fun k_ hk => (⟨hk, hk.2⟩ : _ ∧ k_ ≠ aa))) (fun _ hk => hk.2) (.slice az au.length ay)) (fun _ hk => hk.2) (.slice aC aw.length aA)) (fun _ h_ => h_.1))) hb); replace aP := am (Kd.V_below (by (with_reducible repeat (first | apply Kd.V_alloc | apply Kd.V_drewN | apply Kd.V_drew)); exact (Kd.V_mono (Kd.V_far (p := ⟨aa, 1, none⟩) (Kd.V_far (p := ⟨aa, 0, none⟩) (Kd.V_mono aP.out (fun k_ hk => (⟨hk, hk.2⟩ : _ ∧ k_ ≠ aa))) (fun _ hk => hk.2) (.slice az au.length ay)) (fun _ hk => hk.2) (.slice aC aw.length aA)) (fun _ h_ => h_.1))) hb); replace a6 := am (Kd.R_below (by (with_reducible repeat (first | apply Kd.R_alloc | apply Kd.R_drewN | apply Kd.R_drew)); exact (Kd.R_mono (Kd.R_far (p := ⟨aa, 1, none⟩) (Kd.R_far (p := ⟨aa, 0, none⟩) (Kd.R_types a6.out an.out (by decide)) (fun _ hk => hk.2) (.slice az au.length ay)) (fun _ hk => hk.2) (.slice aC aw.length aA)) (fun _ h_ => h_.1))) hb); replace ab := am (blk_below (g := ad) (o := .cells #[.slice aW av.length aK, .slice aY ar.length aN] 25 (0, 0)) (by (with_reducible repeat (first | apply bn | apply bd | apply ba)); refine blk_far ?_ aH.out _; (with_reducible repeat (first | apply bn | apply bd | apply ba)); refine blk_far ?_ aH.out _; exact bT ab.out) hb); replace ae := am (blk_below (g := ac) (o := .cells #[.slice aU ao.length aV, .slice a5 ah.length aX] 25 (0, 0)) (by (with_reducible repeat (first | apply bn | apply bd | apply ba)); refine blk_far ?_ aB.out _; (with_reducible repeat (first | apply bn | apply bd | apply ba)); refine blk_far ?_ aB.out _; exact bT ae.out) hb); replace HB := am (below_step (by repeat (first | (with_reducible first | exact HB.out | apply pA | apply pN | apply pD | refine eU ?_ (by assumption)) | exact HB.out)) hb); replace an := am (blk_below (g := aa) (o := .cells #[.slice az au.length ay, .slice aC aw.length aA] 25 (0, 0)) (by (with_reducible repeat (first | apply bn | apply bd | apply ba)); refine blk_put (cs := #[.slice az au.length ay, .slice none 0 0]) ?_ 1 _ rfl; (with_reducible repeat (first | apply bn | apply bd | apply ba)); refine blk_put (cs := #[.slice none 0 0, .slice none 0 0]) ?_ 0 _ rfl; exact bT an.out) hb); (try clear hb); (try clear hb2); (try clear hk); (try clear hi); obtain ⟨eH, eI, dT⟩ := Kd.R_slice aF.out; subst dT; obtain ⟨eJ, eK, dU⟩ := Kd.R_slice a6.out; subst dU) | (go_at_call 18; (with_reducible refine (graftwoodref11_Ints.calls k _ _ bi _ _ cD false _ ?side1 ?side2 ?side3 ?side4 A35.out).mono ?_); (case side1 => exact cW (Kd.R_reads' aF.out).2.2); (case side2 => exact (Kd.R_reads' aF.out).2.1); (case side3 => exact cW (Kd.R_reads' a6.out).2.2); (case side4 => exact (Kd.R_reads' a6.out).2.1); rintro e w' ⟨rfl, ⟨nd, rfl⟩⟩))
      go_meet
      case rel => exact ⟨_, (true), (by first | rfl | (simp; done) | (simp [*]; done)), H', ⟨by first | omega | exact Nat.le_refl _⟩, ⟨by (with_reducible repeat (first | apply Kd.V_alloc | apply Kd.V_drewN | apply Kd.V_drew)); exact Kd.V_mono ap.out (fun _ hk => ⟨hk.1.1.2.1, ⟨hk.1.1.2.2, hk.2⟩⟩)⟩, ⟨by (with_reducible repeat (first | apply Kd.V_alloc | apply Kd.V_drewN | apply Kd.V_drew)); exact Kd.V_mono aq.out (fun _ hk => ⟨hk.1.1.2.1, ⟨hk.1.1.2.2, hk.2⟩⟩)⟩, ⟨by (with_reducible repeat (first | apply Kd.V_alloc | apply Kd.V_drewN | apply Kd.V_drew)); exact Kd.V_mono aD.out (fun _ hk => ⟨hk.1.1.2.1, ⟨hk.1.1.2.2, hk.2⟩⟩)⟩, ⟨by (with_reducible repeat (first | apply Kd.V_alloc | apply Kd.V_drewN | apply Kd.V_drew)); exact Kd.V_mono aE.out (fun _ hk => ⟨hk.1.1.2.1, ⟨hk.1.1.2.2, hk.2⟩⟩)⟩, ⟨by (with_reducible repeat (first | apply Kd.V_alloc | apply Kd.V_drewN | apply Kd.V_drew)); exact Kd.V_mono aO.out (fun _ hk => ⟨hk.1.2.2.1, ⟨hk.1.2.2.2, hk.2⟩⟩)⟩, ⟨by (with_reducible repeat (first | apply Kd.V_alloc | apply Kd.V_drewN | apply Kd.V_drew)); exact Kd.V_mono aP.out (fun _ hk => ⟨hk.1.2.2.1, ⟨hk.1.2.2.2, hk.2⟩⟩)⟩, ⟨bT ab.out⟩, ⟨bT ae.out⟩, ⟨bT an.out⟩, ⟨eT HB.out⟩⟩
    ·replace c34 := Bool.eq_false_iff.mpr c34
     subst c34
     have H1 : (graftwoodlaw15_ReachMore.j0 k true ao ah) = some r := by rw [if_neg (show ¬ (false = true) by decide)] at H; exact H
     clear H
     have H := H1
     clear H1
     have H' := Aside0.mk H
     clear H
     have em := be.out
     have en := aH.out
     have eo := a4.out
     have ep := aB.out
     have cl : w26.cell? ⟨aa, 0, none⟩ = some (.slice none 0 0) := cT an 0
     have cm : w26.cell? ⟨aa, 1, none⟩ = some (.slice none 0 0) := cT an 1
     have cn := blk_frozen an.out 0
     have co := blk_frozen an.out 1
     have eq := aG.out
     have er := aJ.out
     have cp : w26.cell? ⟨ad, 0, none⟩ = some (.slice aW av.length aK) := cT ab 0
     have cq : w26.cell? ⟨ad, 1, none⟩ = some (.slice aY ar.length aN) := cT ab 1
     have cr := blk_frozen ab.out 0
     have ct := blk_frozen ab.out 1
     go_wp2_with (first | (go_at_call 27; (with_reducible refine (reach_Same.calls k _ _ au _ _ aw _ _ av _ _ ar false _ ?side1 ?side2 ?side3 ?side4 ?side5 ?side6 ?side7 ?side8 A33.out).mono ?_); (case side1 => refine (Kd.V_reads' (e := 36) (base := w.heap.size) (ok := fun k_ => ((some k_ ≠ (bl : Value).ownBlock ∧ (some k_ ≠ (aL : Value).ownBlock ∧ (k_ ≠ ad ∧ k_ ≠ ac))) ∧ k_ ≠ aa)) (n := au.length) (c := ay) ?_).2.2; exact (by (with_reducible repeat (first | apply Kd.V_alloc | apply Kd.V_drewN | apply Kd.V_drew)); exact (Kd.V_mono (Kd.V_far (p := ⟨aa, 1, none⟩) (Kd.V_far (p := ⟨aa, 0, none⟩) (Kd.V_mono aO.out (fun k_ hk => (⟨hk, hk.2⟩ : _ ∧ k_ ≠ aa))) (fun _ hk => hk.2) (.slice az au.length ay)) (fun _ hk => hk.2) (.slice aC aw.length aA)) (fun _ h_ => h_.1)))); (case side2 => exact (Kd.V_reads' aO.out).2.1); (case side3 => refine (Kd.V_reads' (e := 3) (base := w.heap.size) (ok := fun k_ => ((some k_ ≠ (bl : Value).ownBlock ∧ (some k_ ≠ (aL : Value).ownBlock ∧ (k_ ≠ ad ∧ k_ ≠ ac))) ∧ k_ ≠ aa)) (n := aw.length) (c := aA) ?_).2.2; exact (by (with_reducible repeat (first | apply Kd.V_alloc | apply Kd.V_drewN | apply Kd.V_drew)); exact (Kd.V_mono (Kd.V_far (p := ⟨aa, 1, none⟩) (Kd.V_far (p := ⟨aa, 0, none⟩) (Kd.V_mono aP.out (fun k_ hk => (⟨hk, hk.2⟩ : _ ∧ k_ ≠ aa))) (fun _ hk => hk.2) (.slice az au.length ay)) (fun _ hk => hk.2) (.slice aC aw.length aA)) (fun _ h_ => h_.1)))); (case side4 => exact (Kd.V_reads' aP.out).2.1); (case side5 => refine (Kd.V_reads' (e := 36) (base := w.heap.size) (ok := fun k_ => (((some k_ ≠ (aL : Value).ownBlock ∧ (k_ ≠ ad ∧ k_ ≠ ac)) ∧ some k_ ≠ (bl : Value).ownBlock) ∧ k_ ≠ aa)) (n := av.length) (c := aK) ?_).2.2; exact (by (with_reducible repeat (first | apply Kd.V_alloc | apply Kd.V_drewN | apply Kd.V_drew)); exact (Kd.V_mono (Kd.V_far (p := ⟨aa, 1, none⟩) (Kd.V_far (p := ⟨aa, 0, none⟩) (Kd.V_mono ap.out (fun k_ hk => (⟨hk, hk.2⟩ : _ ∧ k_ ≠ aa))) (fun _ hk => hk.2) (.slice az au.length ay)) (fun _ hk => hk.2) (.slice aC aw.length aA)) (fun _ h_ => h_.1)))); (case side6 => exact (Kd.V_reads' ap.out).2.1); (case side7 => refine (Kd.V_reads' (e := 3) (base := w.heap.size) (ok := fun k_ => (((some k_ ≠ (aL : Value).ownBlock ∧ (k_ ≠ ad ∧ k_ ≠ ac)) ∧ some k_ ≠ (bl : Value).ownBlock) ∧ k_ ≠ aa)) (n := ar.length) (c := aN) ?_).2.2; exact (by (with_reducible repeat (first | apply Kd.V_alloc | apply Kd.V_drewN | apply Kd.V_drew)); exact (Kd.V_mono (Kd.V_far (p := ⟨aa, 1, none⟩) (Kd.V_far (p := ⟨aa, 0, none⟩) (Kd.V_mono aq.out (fun k_ hk => (⟨hk, hk.2⟩ : _ ∧ k_ ≠ aa))) (fun _ hk => hk.2) (.slice az au.length ay)) (fun _ hk => hk.2) (.slice aC aw.length aA)) (fun _ h_ => h_.1)))); (case side8 => exact (Kd.V_reads' aq.out).2.1); rintro e w60 ⟨rfl, hb⟩; replace ap := am (Kd.V_below (by (with_reducible repeat (first | apply Kd.V_alloc | apply Kd.V_drewN | apply Kd.V_drew)); exact (Kd.V_mono (Kd.V_far (p := ⟨aa, 1, none⟩) (Kd.V_far (p := ⟨aa, 0, none⟩) (Kd.V_mono ap.out (fun k_ hk => (⟨hk, hk.2⟩ : _ ∧ k_ ≠ aa))) (fun _ hk => hk.2) (.slice az au.length ay)) (fun _ hk => hk.2) (.slice aC aw.length aA)) (fun _ h_ => h_.1))) hb); replace aq := am (Kd.V_below (by (with_reducible repeat (first | apply Kd.V_alloc | apply Kd.V_drewN | apply Kd.V_drew)); exact (Kd.V_mono (Kd.V_far (p := ⟨aa, 1, none⟩) (Kd.V_far (p := ⟨aa, 0, none⟩) (Kd.V_mono aq.out (fun k_ hk => (⟨hk, hk.2⟩ : _ ∧ k_ ≠ aa))) (fun _ hk => hk.2) (.slice az au.length ay)) (fun _ hk => hk.2) (.slice aC aw.length aA)) (fun _ h_ => h_.1))) hb); replace aD := am (Kd.V_below (by (with_reducible repeat (first | apply Kd.V_alloc | apply Kd.V_drewN | apply Kd.V_drew)); exact (Kd.V_mono (Kd.V_far (p := ⟨aa, 1, none⟩) (Kd.V_far (p := ⟨aa, 0, none⟩) (Kd.V_mono aD.out (fun k_ hk => (⟨hk, hk.2⟩ : _ ∧ k_ ≠ aa))) (fun _ hk => hk.2) (.slice az au.length ay)) (fun _ hk => hk.2) (.slice aC aw.length aA)) (fun _ h_ => h_.1))) hb); replace aE := am (Kd.V_below (by (with_reducible repeat (first | apply Kd.V_alloc | apply Kd.V_drewN | apply Kd.V_drew)); exact (Kd.V_mono (Kd.V_far (p := ⟨aa, 1, none⟩) (Kd.V_far (p := ⟨aa, 0, none⟩) (Kd.V_mono aE.out (fun k_ hk => (⟨hk, hk.2⟩ : _ ∧ k_ ≠ aa))) (fun _ hk => hk.2) (.slice az au.length ay)) (fun _ hk => hk.2) (.slice aC aw.length aA)) (fun _ h_ => h_.1))) hb); replace aF := am (Kd.R_below (by (with_reducible repeat (first | apply Kd.R_alloc | apply Kd.R_drewN | apply Kd.R_drew)); exact (Kd.R_mono (Kd.R_far (p := ⟨aa, 1, none⟩) (Kd.R_far (p := ⟨aa, 0, none⟩) (Kd.R_types aF.out an.out (by decide)) (fun _ hk => hk.2) (.slice az au.length ay)) (fun _ hk => hk.2) (.slice aC aw.length aA)) (fun _ h_ => h_.1))) hb); replace aO := am (Kd.V_below (by (with_reducible repeat (first | apply Kd.V_alloc | apply Kd.V_drewN | apply Kd.V_drew)); exact (Kd.V_mono (Kd.V_far (p := ⟨aa, 1, none⟩) (Kd.V_far (p := ⟨aa, 0, none⟩) (Kd.V_mono aO.out (fun k_ hk => (⟨hk, hk.2⟩ : _ ∧ k_ ≠ aa))) (fun _ hk => hk.2) (.slice az au.length ay)) (fun _ hk => hk.2) (.slice aC aw.length aA)) (fun _ h_ => h_.1))) hb); replace aP := am (Kd.V_below (by (with_reducible repeat (first | apply Kd.V_alloc | apply Kd.V_drewN | apply Kd.V_drew)); exact (Kd.V_mono (Kd.V_far (p := ⟨aa, 1, none⟩) (Kd.V_far (p := ⟨aa, 0, none⟩) (Kd.V_mono aP.out (fun k_ hk => (⟨hk, hk.2⟩ : _ ∧ k_ ≠ aa))) (fun _ hk => hk.2) (.slice az au.length ay)) (fun _ hk => hk.2) (.slice aC aw.length aA)) (fun _ h_ => h_.1))) hb); replace a6 := am (Kd.R_below (by (with_reducible repeat (first | apply Kd.R_alloc | apply Kd.R_drewN | apply Kd.R_drew)); exact (Kd.R_mono (Kd.R_far (p := ⟨aa, 1, none⟩) (Kd.R_far (p := ⟨aa, 0, none⟩) (Kd.R_types a6.out an.out (by decide)) (fun _ hk => hk.2) (.slice az au.length ay)) (fun _ hk => hk.2) (.slice aC aw.length aA)) (fun _ h_ => h_.1))) hb); replace ab := am (blk_below (g := ad) (o := .cells #[.slice aW av.length aK, .slice aY ar.length aN] 25 (0, 0)) (by (with_reducible repeat (first | apply bn | apply bd | apply ba)); refine blk_far ?_ aH.out _; (with_reducible repeat (first | apply bn | apply bd | apply ba)); refine blk_far ?_ aH.out _; exact bT ab.out) hb); replace ae := am (blk_below (g := ac) (o := .cells #[.slice aU ao.length aV, .slice a5 ah.length aX] 25 (0, 0)) (by (with_reducible repeat (first | apply bn | apply bd | apply ba)); refine blk_far ?_ aB.out _; (with_reducible repeat (first | apply bn | apply bd | apply ba)); refine blk_far ?_ aB.out _; exact bT ae.out) hb); replace HB := am (below_step (by repeat (first | (with_reducible first | exact HB.out | apply pA | apply pN | apply pD | refine eU ?_ (by assumption)) | exact HB.out)) hb); replace an := am (blk_below (g := aa) (o := .cells #[.slice az au.length ay, .slice aC aw.length aA] 25 (0, 0)) (by (with_reducible repeat (first | apply bn | apply bd | apply ba)); refine blk_put (cs := #[.slice az au.length ay, .slice none 0 0]) ?_ 1 _ rfl; (with_reducible repeat (first | apply bn | apply bd | apply ba)); refine blk_put (cs := #[.slice none 0 0, .slice none 0 0]) ?_ 0 _ rfl; exact bT an.out) hb); (try clear hb); (try clear hb2); (try clear hk); (try clear hi)))
     go_meet
     case rel => exact ⟨_, (true), (by first | rfl | (simp; done) | (simp [*]; done)), H', ⟨by first | omega | exact Nat.le_refl _⟩, ⟨by (with_reducible repeat (first | apply Kd.V_alloc | apply Kd.V_drewN | apply Kd.V_drew)); exact Kd.V_mono ap.out (fun _ hk => ⟨hk.1.1.2.1, ⟨hk.1.1.2.2, hk.2⟩⟩)⟩, ⟨by (with_reducible repeat (first | apply Kd.V_alloc | apply Kd.V_drewN | apply Kd.V_drew)); exact Kd.V_mono aq.out (fun _ hk => ⟨hk.1.1.2.1, ⟨hk.1.1.2.2, hk.2⟩⟩)⟩, ⟨by (with_reducible repeat (first | apply Kd.V_alloc | apply Kd.V_drewN | apply Kd.V_drew)); exact Kd.V_mono aD.out (fun _ hk => ⟨hk.1.1.2.1, ⟨hk.1.1.2.2, hk.2⟩⟩)⟩, ⟨by (with_reducible repeat (first | apply Kd.V_alloc | apply Kd.V_drewN | apply Kd.V_drew)); exact Kd.V_mono aE.out (fun _ hk => ⟨hk.1.1.2.1, ⟨hk.1.1.2.2, hk.2⟩⟩)⟩, ⟨by (with_reducible repeat (first | apply Kd.V_alloc | apply Kd.V_drewN | apply Kd.V_drew)); exact Kd.V_mono aO.out (fun _ hk => ⟨hk.1.2.2.1, ⟨hk.1.2.2.2, hk.2⟩⟩)⟩, ⟨by (with_reducible repeat (first | apply Kd.V_alloc | apply Kd.V_drewN | apply Kd.V_drew)); exact Kd.V_mono aP.out (fun _ hk => ⟨hk.1.2.2.1, ⟨hk.1.2.2.2, hk.2⟩⟩)⟩, ⟨bT ab.out⟩, ⟨bT ae.out⟩, ⟨bT an.out⟩, ⟨eT HB.out⟩⟩
   ·rw [if_neg c32] at H
    have br : (cy == 0) = false := beq_eq_false_iff_ne.mpr c32
    have cB : (cy != 0) = true := bne_iff_ne.mpr c32
    (first | rw [br] | (simp only [i64_w, i32_w]; rw [br]) | skip)
    have H' := Aside0.mk H
    clear H
    go_wp2
    go_meet
    case rel => exact ⟨_, (true), (by first | rfl | (simp; done) | (simp [*]; done)), H', ⟨by first | omega | exact Nat.le_refl _⟩, ⟨by (with_reducible repeat (first | apply Kd.V_alloc | apply Kd.V_drewN | apply Kd.V_drew)); exact Kd.V_mono (Kd.V_far (p := ⟨aa, 1, none⟩) (Kd.V_far (p := ⟨aa, 0, none⟩) (Kd.V_mono ap.out (fun k_ hk => (⟨hk, hk.2⟩ : _ ∧ k_ ≠ aa))) (fun _ hk => hk.2) (.slice az au.length ay)) (fun _ hk => hk.2) (.slice aC aw.length aA)) (fun _ hk => ⟨hk.1.1.1.2.1, ⟨hk.1.1.1.2.2, hk.1.2⟩⟩)⟩, ⟨by (with_reducible repeat (first | apply Kd.V_alloc | apply Kd.V_drewN | apply Kd.V_drew)); exact Kd.V_mono (Kd.V_far (p := ⟨aa, 1, none⟩) (Kd.V_far (p := ⟨aa, 0, none⟩) (Kd.V_mono aq.out (fun k_ hk => (⟨hk, hk.2⟩ : _ ∧ k_ ≠ aa))) (fun _ hk => hk.2) (.slice az au.length ay)) (fun _ hk => hk.2) (.slice aC aw.length aA)) (fun _ hk => ⟨hk.1.1.1.2.1, ⟨hk.1.1.1.2.2, hk.1.2⟩⟩)⟩, ⟨by (with_reducible repeat (first | apply Kd.V_alloc | apply Kd.V_drewN | apply Kd.V_drew)); exact Kd.V_mono (Kd.V_far (p := ⟨aa, 1, none⟩) (Kd.V_far (p := ⟨aa, 0, none⟩) (Kd.V_mono aD.out (fun k_ hk => (⟨hk, hk.2⟩ : _ ∧ k_ ≠ aa))) (fun _ hk => hk.2) (.slice az au.length ay)) (fun _ hk => hk.2) (.slice aC aw.length aA)) (fun _ hk => ⟨hk.1.1.1.2.1, ⟨hk.1.1.1.2.2, hk.1.2⟩⟩)⟩, ⟨by (with_reducible repeat (first | apply Kd.V_alloc | apply Kd.V_drewN | apply Kd.V_drew)); exact Kd.V_mono (Kd.V_far (p := ⟨aa, 1, none⟩) (Kd.V_far (p := ⟨aa, 0, none⟩) (Kd.V_mono aE.out (fun k_ hk => (⟨hk, hk.2⟩ : _ ∧ k_ ≠ aa))) (fun _ hk => hk.2) (.slice az au.length ay)) (fun _ hk => hk.2) (.slice aC aw.length aA)) (fun _ hk => ⟨hk.1.1.1.2.1, ⟨hk.1.1.1.2.2, hk.1.2⟩⟩)⟩, ⟨by (with_reducible repeat (first | apply Kd.V_alloc | apply Kd.V_drewN | apply Kd.V_drew)); exact Kd.V_mono (Kd.V_far (p := ⟨aa, 1, none⟩) (Kd.V_far (p := ⟨aa, 0, none⟩) (Kd.V_mono aO.out (fun k_ hk => (⟨hk, hk.2⟩ : _ ∧ k_ ≠ aa))) (fun _ hk => hk.2) (.slice az au.length ay)) (fun _ hk => hk.2) (.slice aC aw.length aA)) (fun _ hk => ⟨hk.1.1.2.2.1, ⟨hk.1.1.2.2.2, hk.1.2⟩⟩)⟩, ⟨by (with_reducible repeat (first | apply Kd.V_alloc | apply Kd.V_drewN | apply Kd.V_drew)); exact Kd.V_mono (Kd.V_far (p := ⟨aa, 1, none⟩) (Kd.V_far (p := ⟨aa, 0, none⟩) (Kd.V_mono aP.out (fun k_ hk => (⟨hk, hk.2⟩ : _ ∧ k_ ≠ aa))) (fun _ hk => hk.2) (.slice az au.length ay)) (fun _ hk => hk.2) (.slice aC aw.length aA)) (fun _ hk => ⟨hk.1.1.2.2.1, ⟨hk.1.1.2.2.2, hk.1.2⟩⟩)⟩, ⟨by (with_reducible repeat (first | apply bn | apply bd | apply ba)); refine blk_far ?_ aH.out _; (with_reducible repeat (first | apply bn | apply bd | apply ba)); refine blk_far ?_ aH.out _; exact bT ab.out⟩, ⟨by (with_reducible repeat (first | apply bn | apply bd | apply ba)); refine blk_far ?_ aB.out _; (with_reducible repeat (first | apply bn | apply bd | apply ba)); refine blk_far ?_ aB.out _; exact bT ae.out⟩, ⟨by (with_reducible repeat (first | apply bn | apply bd | apply ba)); refine blk_put (cs := #[.slice az au.length ay, .slice none 0 0]) ?_ 1 _ rfl; (with_reducible repeat (first | apply bn | apply bd | apply ba)); refine blk_put (cs := #[.slice none 0 0, .slice none 0 0]) ?_ 0 _ rfl; exact bT an.out⟩, ⟨by repeat (first | (with_reducible first | exact HB.out | apply pA | apply pN | apply pD | refine eU ?_ (by assumption)) | exact HB.out)⟩⟩
  case rest =>
   clear HC8
   try clear c1
   try clear c2
   try clear p2
   try clear c3
   try clear c4
   try clear c5
   try clear c6
   try clear cF
   try clear cG
   try clear p6
   try clear c8
   try clear c10
   try clear c11
   try clear c20
   try clear c28
   try clear c29
   try clear c32
   try clear br
   try clear cB
   try clear c34
   try clear c36
   try clear c37
   try clear c38
   try clear c40
   try clear c47
   try clear c48
   try clear c50
   try clear c55
   try clear c56
   try clear c58
   try clear bv
   try clear bw
   try clear bC
   try clear bD
   try clear bG
   try clear bH
   try clear bK
   try clear bL
   try clear bO
   try clear bP
   try clear bS
   try clear bU
   try clear bX
   try clear bZ
   try clear b2
   try clear b3
   try clear b6
   try clear b7
   try clear b_
   try clear ca
   try clear cd
   try clear ce
   try clear ch
   try clear ci
   try clear cl
   try clear cm
   try clear cp
   try clear cq
   try clear bx
   try clear bz
   try clear bE
   try clear bF
   try clear bI
   try clear bJ
   try clear bM
   try clear bN
   try clear bQ
   try clear bR
   try clear bV
   try clear bW
   try clear b0
   try clear b1
   try clear b4
   try clear b5
   try clear b8
   try clear b9
   try clear cb
   try clear cc
   try clear cf
   try clear cg
   try clear cj
   try clear ck
   try clear cn
   try clear co
   try clear cr
   try clear ct
   obtain ⟨kq, cA, rfl, HA, HJ7, ai, aj, ag, af, ak, al, ab, ae, an, HB⟩ := hcut
   cases kq with
   | zero => exact absurd HA.out (by simp [graftwoodlaw15_ReachMore.j0])
   | succ kj7 =>
    have H := HA.out
    clear HA
    simp only [graftwoodlaw15_ReachMore.j0] at H
    by_cases c61 : cA = true
    ·subst c61
     have H1 : (some false) = some r := by rw [if_pos rfl] at H; exact H
     clear H
     have H := H1
     clear H1
     exact absurd ((Option.some.inj H).trans hR_) (by decide)
    ·replace c61 := Bool.eq_false_iff.mpr c61
     subst c61
     have H1 : (graftwoodlaw15_ReachMore.l0 kj7 0 ao ah) = some r := by rw [if_neg (show ¬ (false = true) by decide)] at H; exact H
     clear H
     have H := H1
     clear H1
     have H' := Aside0.mk H
     clear H
     go_wp2
     go_loopg [13] kj7 (fun kq v13 w' => ∃ (aI : Int), v13 = .int .i64 aI ∧ Aside0 (graftwoodlaw15_ReachMore.l0 kq aI ao ah = some r) ∧ Aside0 (kq ≤ kj7) ∧ Aside0 (Kd.V k36 36 w' w.heap.size (fun k_ => k_ ≠ ad ∧ k_ ≠ ac ∧ k_ ≠ aa) (.slice aW av.length aK) av) ∧ Aside0 (Kd.V (Kd.int .i64) 3 w' w.heap.size (fun k_ => k_ ≠ ad ∧ k_ ≠ ac ∧ k_ ≠ aa) (.slice aY ar.length aN) ar) ∧ Aside0 (Kd.V k36 36 w' w.heap.size (fun k_ => k_ ≠ ad ∧ k_ ≠ ac ∧ k_ ≠ aa) (.slice aU ao.length aV) ao) ∧ Aside0 (Kd.V (Kd.int .i64) 3 w' w.heap.size (fun k_ => k_ ≠ ad ∧ k_ ≠ ac ∧ k_ ≠ aa) (.slice a5 ah.length aX) ah) ∧ Aside0 (Kd.V k36 36 w' w.heap.size (fun k_ => k_ ≠ ad ∧ k_ ≠ ac ∧ k_ ≠ aa) (.slice az au.length ay) au) ∧ Aside0 (Kd.V (Kd.int .i64) 3 w' w.heap.size (fun k_ => k_ ≠ ad ∧ k_ ≠ ac ∧ k_ ≠ aa) (.slice aC aw.length aA) aw) ∧ Aside0 (w'.heap[ad]? = some (.cells #[(.slice aW av.length aK), (.slice aY ar.length aN)] 25 (0, 0))) ∧ Aside0 (w'.heap[ac]? = some (.cells #[(.slice aU ao.length aV), (.slice a5 ah.length aX)] 25 (0, 0))) ∧ Aside0 (w'.heap[aa]? = some (.cells #[(.slice az au.length ay), (.slice aC aw.length aA)] 25 (0, 0))) ∧ Aside0 (Below w.heap.size w w'))
     case atStart => exact ⟨(0), (by first | rfl | (simp; done) | (simp [*]; done)), H', ⟨Nat.le_refl _⟩, ⟨vT ai.out⟩, ⟨vT aj.out⟩, ⟨vT ag.out⟩, ⟨vT af.out⟩, ⟨vT ak.out⟩, ⟨vT al.out⟩, ⟨bT ab.out⟩, ⟨bT ae.out⟩, ⟨bT an.out⟩, ⟨eT HB.out⟩⟩
     case round =>
      clear H'
      try clear c1
      try clear c2
      try clear p2
      try clear c3
      try clear c4
      try clear c5
      try clear c6
      try clear cF
      try clear cG
      try clear p6
      try clear c8
      try clear c10
      try clear c11
      try clear c20
      try clear c28
      try clear c29
      try clear c32
      try clear br
      try clear cB
      try clear c34
      try clear c36
      try clear c37
      try clear c38
      try clear c40
      try clear c47
      try clear c48
      try clear c50
      try clear c55
      try clear c56
      try clear c58
      try clear c61
      try clear bv
      try clear bw
      try clear bC
      try clear bD
      try clear bG
      try clear bH
      try clear bK
      try clear bL
      try clear bO
      try clear bP
      try clear bS
      try clear bU
      try clear bX
      try clear bZ
      try clear b2
      try clear b3
      try clear b6
      try clear b7
      try clear b_
      try clear ca
      try clear cd
      try clear ce
      try clear ch
      try clear ci
      try clear cl
      try clear cm
      try clear cp
      try clear cq
      try clear bx
      try clear bz
      try clear bE
      try clear bF
      try clear bI
      try clear bJ
      try clear bM
      try clear bN
      try clear bQ
      try clear bR
      try clear bV
      try clear bW
      try clear b0
      try clear b1
      try clear b4
      try clear b5
      try clear b8
      try clear b9
      try clear cb
      try clear cc
      try clear cf
      try clear cg
      try clear cj
      try clear ck
      try clear cn
      try clear co
      try clear cr
      try clear ct
      try clear p2
      try clear p6
      obtain ⟨aI, rfl, HA, HK2, ai, aj, ag, af, ak, al, ab, ae, an, HB⟩ := hrel
      cases gk with
      | zero => exact absurd HA.out (by simp [graftwoodlaw15_ReachMore.l0])
      | succ k2 =>
       have H := HA.out
       clear HA
       simp only [graftwoodlaw15_ReachMore.l0] at H
       by_cases c62 : aI < (ah.length : Int)
       ·rw [if_pos c62] at H
        have cQ : decide (aI < (ah.length : Int)) = true := decide_eq_true c62
        clear c62
        by_cases c63 : 0 ≤ aI
        ·rw [if_pos c63] at H
         have cY : decide (0 ≤ aI) = true := decide_eq_true c63
         clear c63
         replace H := Option.bind_eq_some_iff.mp H
         obtain ⟨aR, cZ, H⟩ := H
         replace H : (graftwoodlaw15_ReachMore.l1 k2 aI aR false 0 ao ah) = some r := H
         have A64 := Aside0.mk cZ
         clear cZ
         have H' := Aside0.mk H
         clear H
         have es := aJ.out
         have et := aG.out
         have eu := aB.out
         have ev := a4.out
         have cH : wr.cell? ⟨ac, 0, none⟩ = some (.slice aU ao.length aV) := cT ae 0
         have cI : wr.cell? ⟨ac, 1, none⟩ = some (.slice a5 ah.length aX) := cT ae 1
         have cJ := blk_frozen ae.out 0
         have cK := blk_frozen ae.out 1
         try go_wp2
         replace ai := am (Kd.V_drew ai.out)
         replace aj := am (Kd.V_drew aj.out)
         replace ag := am (Kd.V_drew ag.out)
         replace af := am (Kd.V_drew af.out)
         replace ak := am (Kd.V_drew ak.out)
         replace al := am (Kd.V_drew al.out)
         replace ab := am (blk_drew ab.out)
         replace ae := am (blk_drew ae.out)
         replace an := am (blk_drew an.out)
         replace HB := am (below_drew1 HB.out)
         have p495 : 0 ≤ (aI : Int) := of_decide_eq_true (by first | (with_reducible assumption) | assumption)
         have q495 : aI < (ah.length : Int) := of_decide_eq_true (by first | (with_reducible assumption) | assumption)
         obtain ⟨ad495, e495, cu⟩ := Kd.at_int (Kd.V_reads' af.out).2.2 aI p495 q495
         cases e495
         replace p495 := eq_true p495
         replace q495 := eq_true q495
         refine start_ (n := 9) (S := fun w' => w'.cell? ⟨ac, 0, none⟩ = some (.slice aU ao.length aV) ∧ w'.cell? ⟨ac, 1, none⟩ = some (.slice (some ad495) ah.length aX) ∧ w'.cell? (ad495.add (aI).toNat) = some (.int .i64 (rd ah aI))) (ds := []) (bA 9 0) (by kernel_rfl) rfl (by kernel_rfl) ⟨cT ae 0, cT ae 1, cu⟩ (fun hHeld => ?_); refine with_tabW graftwoodlaw15_ReachMore.tab11 graftwoodlaw15_ReachMore.bits11 (fun HT_ HW_ => ?_)
         generalize wr.drew = w68 at ai aj ag af ak al ab ae an HB cu hHeld ⊢
         refine pT 0 76 (bA 9 1) HT_.out ?_
         refine pT 2 78 (bA 9 5) HT_.out ?_
         refine pT 4 80 (bA 9 21) HT_.out ?_
         refine tT 1 77 (bA 9 23) HT_.out HW_.out hHeld ?_ (hy := by rintro w' ⟨s0, s1, s2⟩; go_simp; with_reducible rfl)
         refine tT 3 79 (bA 9 31) HT_.out HW_.out hHeld ?_ (hy := by rintro w' ⟨s0, s1, s2⟩; go_simp; with_reducible rfl)
         refine pT 5 81 (bA 9 63) HT_.out ?_
         refine tT 6 82 (bA 9 127) HT_.out HW_.out hHeld ?_ (hy := by rintro w' ⟨s0, s1, s2⟩; go_simp; with_reducible rfl)
         refine oT 7 (bA 9 255) HT_.out fun K hK => ?_
         refine gS Try.func24 #[.slice aU ao.length aV, .int .i64 (rd ah aI)] ?_
         with_reducible refine (graftwoodref11_Back.calls k2 _ _ ao (rd ah aI) aR _ ?side1 ?side2 A64.out).mono ?_
         (case side1 => exact cW (Kd.V_reads' ag.out).2.2)
         (case side2 => exact (Kd.V_reads' ag.out).2.1)
         rintro e w69 ⟨cz, rfl, ho0, hb⟩
         have HS2_ := (hb.cell (World.block_lt_of_cell? _ _ (hHeld.2.2))).trans (hHeld.2.2)
         refine ⟨_, rfl, ?_⟩
         replace ai := am (Kd.V_elder' (vT ai.out) (Kd.R_base ho0) hb)
         replace aj := am (Kd.V_elder' (vT aj.out) (Kd.R_base ho0) hb)
         replace ag := am (Kd.V_elder' (vT ag.out) (Kd.R_base ho0) hb)
         replace af := am (Kd.V_elder' (vT af.out) (Kd.R_base ho0) hb)
         replace ak := am (Kd.V_elder' (vT ak.out) (Kd.R_base ho0) hb)
         replace al := am (Kd.V_elder' (vT al.out) (Kd.R_base ho0) hb)
         have c0 := am (Kd.R_lower ho0 (below_size (eT HB.out)))
         replace ab := am (bB ab.out hb)
         replace ae := am (bB ae.out hb)
         replace an := am (bB an.out hb)
         replace HB := am (sT HB.out hb)
         (try clear hb)
         (try clear hb2)
         (try clear hk)
         (try clear hi)
         (try clear ho0)
         refine hK.out _ _ ⟨cT ae 0, cT ae 1, HS2_⟩ (fun hHeld => ?_)
         clear hK K
         refine mN 83 ?_
         refine pT 8 14 (bA 9 511) HT_.out ?_
         refine done_ (done_of HT_.out (by kernel_rfl)) ?_
         try go_wp2
         go_loopg [15, 16] k2 (fun kq v15 v16 w' => ∃ (cw : Bool) (ax : Int), v15 = .bool cw ∧ v16 = .int .i64 ax ∧ Aside0 (graftwoodlaw15_ReachMore.l1 kq aI aR cw ax ao ah = some r) ∧ Aside0 (kq ≤ k2) ∧ Aside0 (Kd.R (Kd.int .i64) 3 w' w.heap.size (fun _ => True) cz aR) ∧ Aside0 (Kd.V k36 36 w' w.heap.size (fun k_ => some k_ ≠ (cz : Value).ownBlock ∧ k_ ≠ ad ∧ k_ ≠ ac ∧ k_ ≠ aa) (.slice aW av.length aK) av) ∧ Aside0 (Kd.V (Kd.int .i64) 3 w' w.heap.size (fun k_ => some k_ ≠ (cz : Value).ownBlock ∧ k_ ≠ ad ∧ k_ ≠ ac ∧ k_ ≠ aa) (.slice aY ar.length aN) ar) ∧ Aside0 (Kd.V k36 36 w' w.heap.size (fun k_ => some k_ ≠ (cz : Value).ownBlock ∧ k_ ≠ ad ∧ k_ ≠ ac ∧ k_ ≠ aa) (.slice aU ao.length aV) ao) ∧ Aside0 (Kd.V (Kd.int .i64) 3 w' w.heap.size (fun k_ => some k_ ≠ (cz : Value).ownBlock ∧ k_ ≠ ad ∧ k_ ≠ ac ∧ k_ ≠ aa) (.slice (some ad495) ah.length aX) ah) ∧ Aside0 (Kd.V k36 36 w' w.heap.size (fun k_ => some k_ ≠ (cz : Value).ownBlock ∧ k_ ≠ ad ∧ k_ ≠ ac ∧ k_ ≠ aa) (.slice az au.length ay) au) ∧ Aside0 (Kd.V (Kd.int .i64) 3 w' w.heap.size (fun k_ => some k_ ≠ (cz : Value).ownBlock ∧ k_ ≠ ad ∧ k_ ≠ ac ∧ k_ ≠ aa) (.slice aC aw.length aA) aw) ∧ Aside0 (w'.heap[ad]? = some (.cells #[(.slice aW av.length aK), (.slice aY ar.length aN)] 25 (0, 0))) ∧ Aside0 (w'.heap[ac]? = some (.cells #[(.slice aU ao.length aV), (.slice (some ad495) ah.length aX)] 25 (0, 0))) ∧ Aside0 (w'.heap[aa]? = some (.cells #[(.slice az au.length ay), (.slice aC aw.length aA)] 25 (0, 0))) ∧ Aside0 (Below w.heap.size w w'))
         case atStart => exact ⟨(false), (0), (by first | rfl | (simp; done) | (simp [*]; done)), (by first | rfl | (simp; done) | (simp [*]; done)), H', ⟨Nat.le_refl _⟩, ⟨rT c0.out⟩, ⟨by (with_reducible repeat (first | apply Kd.V_alloc | apply Kd.V_drewN | apply Kd.V_drew)); exact Kd.V_mono ai.out (fun _ hk => ⟨hk.2, ⟨hk.1.1, ⟨hk.1.2.1, hk.1.2.2⟩⟩⟩)⟩, ⟨by (with_reducible repeat (first | apply Kd.V_alloc | apply Kd.V_drewN | apply Kd.V_drew)); exact Kd.V_mono aj.out (fun _ hk => ⟨hk.2, ⟨hk.1.1, ⟨hk.1.2.1, hk.1.2.2⟩⟩⟩)⟩, ⟨by (with_reducible repeat (first | apply Kd.V_alloc | apply Kd.V_drewN | apply Kd.V_drew)); exact Kd.V_mono ag.out (fun _ hk => ⟨hk.2, ⟨hk.1.1, ⟨hk.1.2.1, hk.1.2.2⟩⟩⟩)⟩, ⟨by (with_reducible repeat (first | apply Kd.V_alloc | apply Kd.V_drewN | apply Kd.V_drew)); exact Kd.V_mono af.out (fun _ hk => ⟨hk.2, ⟨hk.1.1, ⟨hk.1.2.1, hk.1.2.2⟩⟩⟩)⟩, ⟨by (with_reducible repeat (first | apply Kd.V_alloc | apply Kd.V_drewN | apply Kd.V_drew)); exact Kd.V_mono ak.out (fun _ hk => ⟨hk.2, ⟨hk.1.1, ⟨hk.1.2.1, hk.1.2.2⟩⟩⟩)⟩, ⟨by (with_reducible repeat (first | apply Kd.V_alloc | apply Kd.V_drewN | apply Kd.V_drew)); exact Kd.V_mono al.out (fun _ hk => ⟨hk.2, ⟨hk.1.1, ⟨hk.1.2.1, hk.1.2.2⟩⟩⟩)⟩, ⟨bT ab.out⟩, ⟨bT ae.out⟩, ⟨bT an.out⟩, ⟨eT HB.out⟩⟩
         case round =>
          clear H'
          try clear c1
          try clear c2
          try clear p2
          try clear c3
          try clear c4
          try clear p4
          try clear q4
          try clear hx4
          try clear c5
          try clear c6
          try clear cF
          try clear cG
          try clear p6
          try clear c8
          try clear c10
          try clear c11
          try clear c20
          try clear c24
          try clear c28
          try clear c29
          try clear c32
          try clear br
          try clear cB
          try clear c34
          try clear c36
          try clear c37
          try clear c38
          try clear c40
          try clear c47
          try clear c48
          try clear p49
          try clear q49
          try clear eL
          try clear c50
          try clear c55
          try clear c56
          try clear c58
          try clear c61
          try clear c62
          try clear cQ
          try clear c63
          try clear cY
          try clear p64
          try clear c65
          try clear c66
          try clear bv
          try clear bw
          try clear bC
          try clear bD
          try clear bG
          try clear bH
          try clear bK
          try clear bL
          try clear bO
          try clear bP
          try clear bS
          try clear bU
          try clear bX
          try clear bZ
          try clear b2
          try clear b3
          try clear b6
          try clear b7
          try clear b_
          try clear ca
          try clear cd
          try clear ce
          try clear ch
          try clear ci
          try clear cl
          try clear cm
          try clear cp
          try clear cq
          try clear cH
          try clear cI
          try clear bx
          try clear bz
          try clear bE
          try clear bF
          try clear bI
          try clear bJ
          try clear bM
          try clear bN
          try clear bQ
          try clear bR
          try clear bV
          try clear bW
          try clear b0
          try clear b1
          try clear b4
          try clear b5
          try clear b8
          try clear b9
          try clear cb
          try clear cc
          try clear cf
          try clear cg
          try clear cj
          try clear ck
          try clear cn
          try clear co
          try clear cr
          try clear ct
          try clear cJ
          try clear cK
          try clear cu
          try clear p2
          try clear p495
          try clear p6
          try clear q495
          obtain ⟨cw, ax, rfl, rfl, HA, HK3, aQ, ai, aj, ag, af, ak, al, ab, ae, an, HB⟩ := hrel
          cases gk with
          | zero => exact absurd HA.out (by simp [graftwoodlaw15_ReachMore.l1])
          | succ k3 =>
           have H := HA.out
           clear HA
           simp only [graftwoodlaw15_ReachMore.l1] at H
           by_cases c70 : ax < (aR.length : Int)
           ·rw [if_pos c70] at H
            have c7 : decide (ax < (aR.length : Int)) = true := decide_eq_true c70
            clear c70
            by_cases c71 : cw = true
            ·subst c71
             have H1 : (graftwoodlaw15_ReachMore.l1 k3 aI aR true (wrap64 (ax + 1)) ao ah) = some r := by rw [if_pos rfl] at H; exact H
             clear H
             have H := H1
             clear H1
             have H' := Aside0.mk H
             clear H
             obtain ⟨eM, eN, dV⟩ := Kd.R_slice aQ.out
             subst dV
             try go_wp2
             replace aQ := am (Kd.R_drew aQ.out)
             replace ai := am (Kd.V_drew ai.out)
             replace aj := am (Kd.V_drew aj.out)
             replace ag := am (Kd.V_drew ag.out)
             replace af := am (Kd.V_drew af.out)
             replace ak := am (Kd.V_drew ak.out)
             replace al := am (Kd.V_drew al.out)
             replace ab := am (blk_drew ab.out)
             replace ae := am (blk_drew ae.out)
             replace an := am (blk_drew an.out)
             replace HB := am (below_drew1 HB.out)
             refine start_ (n := 18) (S := fun w' => True) (ds := []) (bA 18 0) (by kernel_rfl) rfl (by kernel_rfl) trivial (fun hHeld => ?_); refine with_tabW graftwoodlaw15_ReachMore.tab16 graftwoodlaw15_ReachMore.bits16 (fun HT_ HW_ => ?_)
             generalize wr.drew = w73 at aQ ai aj ag af ak al ab ae an HB hHeld ⊢
             refine pT 0 90 (bA 18 1) HT_.out ?_
             refine pT 1 91 (bA 18 3) HT_.out ?_
             refine pU 2 92 (bA 18 7) HT_.out ?_
             refine pU 3 93 (bA 18 15) HT_.out ?_
             refine pU 4 94 (bA 18 31) HT_.out ?_
             refine pU 5 95 (bA 18 63) HT_.out ?_
             refine pU 6 96 (bA 18 127) HT_.out ?_
             refine pT 7 97 (bA 18 255) HT_.out ?_
             refine pT 8 98 (bA 18 511) HT_.out ?_
             refine pU 9 99 (bA 18 1023) HT_.out ?_
             refine pU 10 100 (bA 18 2047) HT_.out ?_
             refine pU 11 101 (bA 18 4095) HT_.out ?_
             refine pU 12 102 (bA 18 8191) HT_.out ?_
             refine pU 13 103 (bA 18 16383) HT_.out ?_
             refine pU 14 104 (bA 18 32767) HT_.out ?_
             refine pU 15 105 (bA 18 65535) HT_.out ?_
             refine pT 16 106 (bA 18 131071) HT_.out ?_
             refine pT 17 15 (bA 18 262143) HT_.out ?_
             refine done_ (done_of HT_.out (by kernel_rfl)) ?_
             try go_wp2
             go_roundg k3
             case measure => have := HJ7.out; have := HK2.out; have := HK3.out; omega
             case rel => exact ⟨(true), (wrap64 (ax + 1)), (by first | rfl | (simp; done) | (simp [*]; done)), (by first | rfl | (simp; done) | (simp [*]; done)), H', ⟨by have := HJ7.out; have := HK2.out; have := HK3.out; omega⟩, ⟨rT aQ.out⟩, ⟨vT ai.out⟩, ⟨vT aj.out⟩, ⟨vT ag.out⟩, ⟨vT af.out⟩, ⟨vT ak.out⟩, ⟨vT al.out⟩, ⟨bT ab.out⟩, ⟨bT ae.out⟩, ⟨bT an.out⟩, ⟨eT HB.out⟩⟩
            ·replace c71 := Bool.eq_false_iff.mpr c71
             subst c71
             have H1 : (if 0 ≤ ax then (if (rd aR ax) = (-1) then (graftwoodlaw15_ReachMore.l1 k3 aI aR true (wrap64 (ax + 1)) ao ah) else ((graftwoodref11_Has.f k3 ah (rd aR ax)).bind fun cx => (graftwoodlaw15_ReachMore.l1 k3 aI aR cx (wrap64 (ax + 1)) ao ah))) else (none)) = some r := by rw [if_neg (show ¬ (false = true) by decide)] at H; exact H
             clear H
             have H := H1
             clear H1
             by_cases c74 : 0 ≤ ax
             ·rw [if_pos c74] at H
              have ew : decide (0 ≤ ax) = true := decide_eq_true c74
              clear c74
              by_cases c75 : (rd aR ax) = (-1)
              ·rw [if_pos c75] at H
               have c9 : ((rd aR ax) == (-1)) = true := beq_iff_eq.mpr c75
               have c_ : ((rd aR ax) != (-1)) = false := bne_eq_false_iff_eq.mpr c75
               clear c75
               have H' := Aside0.mk H
               clear H
               obtain ⟨eO, eP, dW⟩ := Kd.R_slice aQ.out
               subst dW
               try go_wp2
               replace aQ := am (Kd.R_drew aQ.out)
               replace ai := am (Kd.V_drew ai.out)
               replace aj := am (Kd.V_drew aj.out)
               replace ag := am (Kd.V_drew ag.out)
               replace af := am (Kd.V_drew af.out)
               replace ak := am (Kd.V_drew ak.out)
               replace al := am (Kd.V_drew al.out)
               replace ab := am (blk_drew ab.out)
               replace ae := am (blk_drew ae.out)
               replace an := am (blk_drew an.out)
               replace HB := am (below_drew1 HB.out)
               have p499 : 0 ≤ (ax : Int) := of_decide_eq_true (by first | (with_reducible assumption) | assumption)
               have q499 : ax < (aR.length : Int) := of_decide_eq_true (by first | (with_reducible assumption) | assumption)
               obtain ⟨ad499, e499, bm⟩ := Kd.at_int (Kd.R_reads' aQ.out).2.2 ax p499 q499
               cases e499
               replace p499 := eq_true p499
               replace q499 := eq_true q499
               refine start_ (n := 18) (S := fun w' => w'.cell? (ad499.add (ax).toNat) = some (.int .i64 (rd aR ax))) (ds := []) (bA 18 0) (by kernel_rfl) rfl (by kernel_rfl) (bm) (fun hHeld => ?_); refine with_tabW graftwoodlaw15_ReachMore.tab16 graftwoodlaw15_ReachMore.bits16 (fun HT_ HW_ => ?_)
               generalize wr.drew = w77 at aQ ai aj ag af ak al ab ae an HB bm hHeld ⊢
               refine pT 0 90 (bA 18 1) HT_.out ?_
               refine pT 1 91 (bA 18 3) HT_.out ?_
               refine pT 2 92 (bA 18 7) HT_.out ?_
               refine pT 3 93 (bA 18 15) HT_.out ?_
               refine pT 4 94 (bA 18 31) HT_.out ?_
               refine take_ (i := 5) (N := some 95) (v := ?_) (a' := ?_) (bA 18 63) rfl rfl (take_ofW HT_.out HW_.out (by kernel_rfl)) (fun _ _ _ h => h) (Or.inl ⟨by rfl, ?_⟩) hHeld ?_ ?_
               rotate_left
               ·intro w' s0
                go_simp
                with_reducible rfl
               rotate_left
               ·simp only [pS]
                rfl
               refine pT 6 96 (bA 18 127) HT_.out ?_
               refine pT 7 97 (bA 18 255) HT_.out ?_
               refine pT 8 98 (bA 18 511) HT_.out ?_
               refine pU 9 99 (bA 18 1023) HT_.out ?_
               refine pU 10 100 (bA 18 2047) HT_.out ?_
               refine pU 11 101 (bA 18 4095) HT_.out ?_
               refine pU 12 102 (bA 18 8191) HT_.out ?_
               refine pU 13 103 (bA 18 16383) HT_.out ?_
               refine pU 14 104 (bA 18 32767) HT_.out ?_
               refine pU 15 105 (bA 18 65535) HT_.out ?_
               refine pT 16 106 (bA 18 131071) HT_.out ?_
               refine pT 17 15 (bA 18 262143) HT_.out ?_
               refine done_ (done_of HT_.out (by kernel_rfl)) ?_
               try go_wp2
               go_roundg k3
               case measure => have := HJ7.out; have := HK2.out; have := HK3.out; omega
               case rel => exact ⟨(true), (wrap64 (ax + 1)), (by first | rfl | (simp; done) | (simp [*]; done)), (by first | rfl | (simp; done) | (simp [*]; done)), H', ⟨by have := HJ7.out; have := HK2.out; have := HK3.out; omega⟩, ⟨rT aQ.out⟩, ⟨vT ai.out⟩, ⟨vT aj.out⟩, ⟨vT ag.out⟩, ⟨vT af.out⟩, ⟨vT ak.out⟩, ⟨vT al.out⟩, ⟨bT ab.out⟩, ⟨bT ae.out⟩, ⟨bT an.out⟩, ⟨eT HB.out⟩⟩
              ·rw [if_neg c75] at H
               have c9 : ((rd aR ax) == (-1)) = false := beq_eq_false_iff_ne.mpr c75
               have c_ : ((rd aR ax) != (-1)) = true := bne_iff_ne.mpr c75
               replace H := Option.bind_eq_some_iff.mp H
               obtain ⟨cx, da, H⟩ := H
               replace H : (graftwoodlaw15_ReachMore.l1 k3 aI aR cx (wrap64 (ax + 1)) ao ah) = some r := H
               have A78 := Aside0.mk da
               clear da
               have H' := Aside0.mk H
               clear H
               obtain ⟨eQ, eR, dX⟩ := Kd.R_slice aQ.out
               subst dX
               try go_wp2
               replace aQ := am (Kd.R_drew aQ.out)
               replace ai := am (Kd.V_drew ai.out)
               replace aj := am (Kd.V_drew aj.out)
               replace ag := am (Kd.V_drew ag.out)
               replace af := am (Kd.V_drew af.out)
               replace ak := am (Kd.V_drew ak.out)
               replace al := am (Kd.V_drew al.out)
               replace ab := am (blk_drew ab.out)
               replace ae := am (blk_drew ae.out)
               replace an := am (blk_drew an.out)
               replace HB := am (below_drew1 HB.out)
               have p499 : 0 ≤ (ax : Int) := of_decide_eq_true (by first | (with_reducible assumption) | assumption)
               have q499 : ax < (aR.length : Int) := of_decide_eq_true (by first | (with_reducible assumption) | assumption)
               obtain ⟨ad499, e499, bm⟩ := Kd.at_int (Kd.R_reads' aQ.out).2.2 ax p499 q499
               cases e499
               replace p499 := eq_true p499
               replace q499 := eq_true q499
               have p500 : 0 ≤ (ax : Int) := of_decide_eq_true (by first | (with_reducible assumption) | assumption)
               have q500 : ax < (aR.length : Int) := of_decide_eq_true (by first | (with_reducible assumption) | assumption)
               obtain ⟨ad500, e500, cC⟩ := Kd.at_int (Kd.R_reads' aQ.out).2.2 ax p500 q500
               obtain rfl : ad499 = ad500 := (by injection e500)
               replace p500 := eq_true p500
               replace q500 := eq_true q500
               refine start_ (n := 18) (S := fun w' => w'.cell? ⟨ac, 0, none⟩ = some (.slice aU ao.length aV) ∧ w'.cell? ⟨ac, 1, none⟩ = some (.slice (some ad495) ah.length aX) ∧ w'.cell? (ad499.add (ax).toNat) = some (.int .i64 (rd aR ax)) ∧ w'.cell? (ad499.add (ax).toNat) = some (.int .i64 (rd aR ax))) (ds := []) (bA 18 0) (by kernel_rfl) rfl (by kernel_rfl) ⟨cT ae 0, cT ae 1, bm, cC⟩ (fun hHeld => ?_); refine with_tabW graftwoodlaw15_ReachMore.tab16 graftwoodlaw15_ReachMore.bits16 (fun HT_ HW_ => ?_)
               generalize wr.drew = w80 at aQ ai aj ag af ak al ab ae an HB bm cC hHeld ⊢
               refine pT 0 90 (bA 18 1) HT_.out ?_
               refine pT 1 91 (bA 18 3) HT_.out ?_
               refine pT 2 92 (bA 18 7) HT_.out ?_
               refine pT 3 93 (bA 18 15) HT_.out ?_
               refine pT 4 94 (bA 18 31) HT_.out ?_
               refine tT 5 95 (bA 18 63) HT_.out HW_.out hHeld ?_ (hy := by rintro w' ⟨s0, s1, s2, s3⟩; go_simp; with_reducible rfl)
               refine pT 6 96 (bA 18 127) HT_.out ?_
               refine pT 7 97 (bA 18 255) HT_.out ?_
               refine pT 8 98 (bA 18 511) HT_.out ?_
               refine pT 9 99 (bA 18 1023) HT_.out ?_
               refine pT 11 101 (bA 18 3071) HT_.out ?_
               refine pT 12 102 (bA 18 7167) HT_.out ?_
               refine pT 13 103 (bA 18 15359) HT_.out ?_
               refine tT 10 100 (bA 18 16383) HT_.out HW_.out hHeld ?_ (hy := by rintro w' ⟨s0, s1, s2, s3⟩; go_simp; with_reducible rfl)
               refine tT 14 104 (bA 18 32767) HT_.out HW_.out hHeld ?_ (hy := by rintro w' ⟨s0, s1, s2, s3⟩; go_simp; with_reducible rfl)
               refine oT 15 (bA 18 65535) HT_.out fun K hK => ?_
               refine gS Try.func25 #[.slice (some ad495) ah.length aX, .int .i64 (rd aR ax)] ?_
               with_reducible refine (graftwoodref11_Has.calls k3 _ _ ah (rd aR ax) cx _ ?side1 ?side2 A78.out).mono ?_
               (case side1 => exact cW (Kd.V_reads' af.out).2.2)
               (case side2 => exact (Kd.V_reads' af.out).2.1)
               rintro e w' ⟨rfl, ⟨nd, rfl⟩⟩
               refine ⟨_, rfl, ?_⟩
               refine hK.out _ _ ⟨cT ae 0, cT ae 1, hHeld.2.2.1, hHeld.2.2.2⟩ (fun hHeld => ?_)
               clear hK K
               refine mN 105 ?_
               refine pT 16 106 (bA 18 131071) HT_.out ?_
               refine pT 17 15 (bA 18 262143) HT_.out ?_
               refine done_ (done_of HT_.out (by kernel_rfl)) ?_
               try go_wp2
               go_roundg k3
               case measure => have := HJ7.out; have := HK2.out; have := HK3.out; omega
               case rel => exact ⟨(cx), (wrap64 (ax + 1)), (by first | rfl | (simp; done) | (simp [*]; done)), (by first | rfl | (simp; done) | (simp [*]; done)), H', ⟨by have := HJ7.out; have := HK2.out; have := HK3.out; omega⟩, ⟨rT aQ.out⟩, ⟨vT ai.out⟩, ⟨vT aj.out⟩, ⟨vT ag.out⟩, ⟨vT af.out⟩, ⟨vT ak.out⟩, ⟨vT al.out⟩, ⟨bT ab.out⟩, ⟨bT ae.out⟩, ⟨bT an.out⟩, ⟨eT HB.out⟩⟩
             ·rw [if_neg c74] at H
              exact absurd H (by simp)
           ·rw [if_neg c70] at H
            have c7 : decide (ax < (aR.length : Int)) = false := decide_eq_false c70
            clear c70
            by_cases c81 : cw = true
            ·subst c81
             have H1 : (graftwoodlaw15_ReachMore.l0 k3 (wrap64 (aI + 1)) ao ah) = some r := by rw [if_pos rfl] at H; exact H
             clear H
             have H := H1
             clear H1
             have H' := Aside0.mk H
             clear H
             obtain ⟨eS, eV, dY⟩ := Kd.R_slice aQ.out
             subst dY
             go_wp2
             go_roundg k3
             case measure => have := HJ7.out; have := HK2.out; have := HK3.out; omega
             case rel => exact ⟨(wrap64 (aI + 1)), (by first | rfl | (simp; done) | (simp [*]; done)), H', ⟨by have := HJ7.out; have := HK2.out; have := HK3.out; omega⟩, ⟨by (with_reducible repeat (first | apply Kd.V_alloc | apply Kd.V_drewN | apply Kd.V_drew)); exact Kd.V_mono ai.out (fun _ hk => ⟨hk.2.1, ⟨hk.2.2.1, hk.2.2.2⟩⟩)⟩, ⟨by (with_reducible repeat (first | apply Kd.V_alloc | apply Kd.V_drewN | apply Kd.V_drew)); exact Kd.V_mono aj.out (fun _ hk => ⟨hk.2.1, ⟨hk.2.2.1, hk.2.2.2⟩⟩)⟩, ⟨by (with_reducible repeat (first | apply Kd.V_alloc | apply Kd.V_drewN | apply Kd.V_drew)); exact Kd.V_mono ag.out (fun _ hk => ⟨hk.2.1, ⟨hk.2.2.1, hk.2.2.2⟩⟩)⟩, ⟨by (with_reducible repeat (first | apply Kd.V_alloc | apply Kd.V_drewN | apply Kd.V_drew)); exact Kd.V_mono af.out (fun _ hk => ⟨hk.2.1, ⟨hk.2.2.1, hk.2.2.2⟩⟩)⟩, ⟨by (with_reducible repeat (first | apply Kd.V_alloc | apply Kd.V_drewN | apply Kd.V_drew)); exact Kd.V_mono ak.out (fun _ hk => ⟨hk.2.1, ⟨hk.2.2.1, hk.2.2.2⟩⟩)⟩, ⟨by (with_reducible repeat (first | apply Kd.V_alloc | apply Kd.V_drewN | apply Kd.V_drew)); exact Kd.V_mono al.out (fun _ hk => ⟨hk.2.1, ⟨hk.2.2.1, hk.2.2.2⟩⟩)⟩, ⟨bT ab.out⟩, ⟨bT ae.out⟩, ⟨bT an.out⟩, ⟨eT HB.out⟩⟩
            ·replace c81 := Bool.eq_false_iff.mpr c81
             subst c81
             have H1 : (some false) = some r := by rw [if_neg (show ¬ (false = true) by decide)] at H; exact H
             clear H
             have H := H1
             clear H1
             exact absurd ((Option.some.inj H).trans hR_) (by decide)
        ·rw [if_neg c63] at H
         exact absurd H (by simp)
       ·rw [if_neg c62] at H
        have cQ : decide (aI < (ah.length : Int)) = false := decide_eq_false c62
        clear c62
        replace H := Option.bind_eq_some_iff.mp H
        obtain ⟨cE, db, H⟩ := H
        replace H : (some cE) = some r := H
        have A84 := Aside0.mk db
        clear db
        obtain rfl := Option.some.inj H
        have ex := aJ.out
        have ey := aG.out
        have ez := aB.out
        have eA := a4.out
        have dp : wr.cell? ⟨ac, 0, none⟩ = some (.slice aU ao.length aV) := cT ae 0
        have dq : wr.cell? ⟨ac, 1, none⟩ = some (.slice a5 ah.length aX) := cT ae 1
        have dr := blk_frozen ae.out 0
        have dt := blk_frozen ae.out 1
        go_wp2_with (first | ((with_reducible refine gate_callee (f := 14) rfl ?_); refine gL (some 109) Try.func14 #[] ?_; (with_reducible refine (graftwoodlaw15_awake.calls k2  cE _ A84.out (by first | exact hR_ | assumption)).mono ?_); rintro e w88 ⟨rfl, hb⟩; refine ⟨_, rfl, ?_⟩; replace ai := am (vB ai.out hb); replace aj := am (vB aj.out hb); replace ag := am (vB ag.out hb); replace af := am (vB af.out hb); replace ak := am (vB ak.out hb); replace al := am (vB al.out hb); replace ab := am (bB ab.out hb); replace ae := am (bB ae.out hb); replace an := am (bB an.out hb); replace HB := am (sT HB.out hb); (try clear hb); (try clear hb2); (try clear hk); (try clear hi)))
        go_ret
        exact ⟨by first | rfl | (simp [errW_none, errW_some] <;> rfl) | (simp [*, errW_none, errW_some] <;> rfl), eT HB.out⟩
 ·rw [if_neg c6] at H
  have cF : (cv == 0) = false := beq_eq_false_iff_ne.mpr c6
  have cG : (cv != 0) = true := bne_iff_ne.mpr c6
  replace H := Option.bind_eq_some_iff.mp H
  obtain ⟨bu, dc, H⟩ := H
  replace H : (if bu = true then ((graftwoodlaw15_awake.f k).bind fun bj => (some bj)) else (some false)) = some r := H
  have A89 := Aside0.mk dc
  clear dc
  by_cases c90 : bu = true
  ·subst c90
   have H1 : ((graftwoodlaw15_awake.f k).bind fun bj => (some bj)) = some r := by rw [if_pos rfl] at H; exact H
   clear H
   have H := H1
   clear H1
   replace H := Option.bind_eq_some_iff.mp H
   obtain ⟨bj, dd, H⟩ := H
   replace H : (some bj) = some r := H
   have A91 := Aside0.mk dd
   clear dd
   obtain rfl := Option.some.inj H
   go_enter Try.func8, Try.ntmps8
   go_wp2_with (first | ((with_reducible refine gate_dst (N := 3) rfl ?_); (try (refine gate_guard (by rfl) ?_; dsimp only)); refine box_event ?hg (N := 3) ?hd (cs := #[.slice bg l0_0.length bh, .slice a_ l0_1.length bb]) (t := 25) ?hr ?_; (case hd => rfl); (case hg => rfl); (case hr => first | (go_simp; done) | (go_simp; rfl)); intro ad hg w92 hbox hb; have ab := am (hbox); have bk := am ((by rw [hg]; exact (below_size (by repeat (first | (with_reducible first | exact HB.out | apply pA | apply pN | apply pD) | exact HB.out))) : w.heap.size ≤ ad)); have cR := am ((by rw [hg]; exact (below_size (by repeat (first | (with_reducible first | exact HB.out | apply pA | apply pN | apply pD) | exact HB.out))) : w.heap.size ≤ ad)); replace HB := am (below_step (by repeat (first | (with_reducible first | exact HB.out | apply pA | apply pN | apply pD) | exact HB.out)) hb); clear hb hbox hg; have du : w92.cell? ⟨ad, 0, none⟩ = some (.slice bg l0_0.length bh) := cT ab 0; have dv : w92.cell? ⟨ad, 1, none⟩ = some (.slice a_ l0_1.length bb) := cT ab 1; have dw := blk_frozen ab.out 0; have dx := blk_frozen ab.out 1) | ((with_reducible refine gate_callee (f := 10) rfl ?_); refine gL (some 18) Try.func10 #[.agg #[.slice bg l0_0.length bh, .slice a_ l0_1.length bb]] ?_; (with_reducible refine (graftwoodlaw15_Few.calls (fun k_ => k_ < w.heap.size) _ _ l0_0 (fun k_ => k_ < w.heap.size) _ _ l0_1 av ar _ ?side1 ?side2 A4.out).mono ?_); (case side1 => exact Kd.V_mk cN.out (Kd.F_below (Kd.C_F k36_heap cM.out) (by repeat (first | (with_reducible first | exact HB.out | apply pA | apply pN | apply pD | refine eU ?_ (by assumption)) | exact HB.out)))); (case side2 => exact Kd.V_mk cP.out (Kd.F_below (Kd.C_F (Kd.heap_int .i64) cO.out) (by repeat (first | (with_reducible first | exact HB.out | apply pA | apply pN | apply pD | refine eU ?_ (by assumption)) | exact HB.out)))); rintro e w94 ⟨dG, dH, rfl, ho0, ho1, hb⟩; refine ⟨_, rfl, ?_⟩; have ap := am (Kd.V_lower (Kd.V_mono (ok' := fun k_ => k_ ≠ ad) ho0 (fun k_ hk_ => Or.elim hk_ (fun hs_ => Or.elim hs_ (fun hs_ => fun e_ => Nat.not_le.2 hs_ (by rw [e_]; exact bk.out)) (fun hs_ => fun e_ => Nat.not_le.2 hs_ (by rw [e_]; exact bk.out))) (fun hn_ => (Kd.freshB (g := ad) (o := .cells #[.slice bg l0_0.length bh, .slice a_ l0_1.length bb] 25 (0, 0)) (bT ab.out) k_ hn_)))) (below_size (by repeat (first | (with_reducible first | exact HB.out | apply pA | apply pN | apply pD | refine eU ?_ (by assumption)) | exact HB.out)))); have aq := am (Kd.V_lower (Kd.V_mono (ok' := fun k_ => k_ ≠ ad) ho1 (fun k_ hk_ => Or.elim hk_ (fun hs_ => Or.elim hs_ (fun hs_ => fun e_ => Nat.not_le.2 hs_ (by rw [e_]; exact bk.out)) (fun hs_ => fun e_ => Nat.not_le.2 hs_ (by rw [e_]; exact bk.out))) (fun hn_ => (Kd.freshB (g := ad) (o := .cells #[.slice bg l0_0.length bh, .slice a_ l0_1.length bb] 25 (0, 0)) (bT ab.out) k_ hn_)))) (below_size (by repeat (first | (with_reducible first | exact HB.out | apply pA | apply pN | apply pD | refine eU ?_ (by assumption)) | exact HB.out)))); replace ab := am (bB ab.out hb); replace HB := am (below_step (by repeat (first | (with_reducible first | exact HB.out | apply pA | apply pN | apply pD | refine eU ?_ (by assumption)) | exact HB.out)) hb); (try clear hb); (try clear hb2); (try clear hk); (try clear hi); (try clear ho0); (try clear ho1); obtain ⟨bp, bo, dZ⟩ := Kd.V_slice ap.out; subst dZ; have dy : w94.cell? ⟨ad, 0, none⟩ = some (.slice bg l0_0.length bh) := cT ab 0; have dz : w94.cell? ⟨ad, 1, none⟩ = some (.slice a_ l0_1.length bb) := cT ab 1; have dA := blk_frozen ab.out 0; have dB := blk_frozen ab.out 1; obtain ⟨bt, bq, d0⟩ := Kd.V_slice aq.out; subst d0) | ((with_reducible refine gate_store (t := 25) (p := 3) rfl ?_); refine store_event (t := 25) (p := 3) (v := ?vo_w98) (w1 := ((w94.setCell ⟨ad, 0, none⟩ (.slice bp av.length bo)).setCell ⟨ad, 1, none⟩ (.slice bt ar.length bq))) ?hg ?ho ?hn ?hr ?_; (case ho => rfl); (case hg => rfl); (case hn => rfl); (case hr => first | (go_simp; done) | (go_simp; rfl)); intro w98 hw; have n0_ : Aside0 (Kd.V k36 36 w98 w.heap.size (fun k_ => k_ ≠ ad) (.slice bp av.length bo) av) := ⟨(by rw [hw]; exact (by (with_reducible repeat (first | apply Kd.V_alloc | apply Kd.V_drewN | apply Kd.V_drew)); exact Kd.V_mono (Kd.V_far (p := ⟨ad, 1, none⟩) (Kd.V_far (p := ⟨ad, 0, none⟩) (Kd.V_mono ap.out (fun k_ hk => (⟨hk, hk⟩ : _ ∧ k_ ≠ ad))) (fun _ hk => hk.2) (.slice bp av.length bo)) (fun _ hk => hk.2) (.slice bt ar.length bq)) (fun _ hk => hk.1)))⟩; have n1_ : Aside0 (Kd.V (Kd.int .i64) 3 w98 w.heap.size (fun k_ => k_ ≠ ad) (.slice bt ar.length bq) ar) := ⟨(by rw [hw]; exact (by (with_reducible repeat (first | apply Kd.V_alloc | apply Kd.V_drewN | apply Kd.V_drew)); exact Kd.V_mono (Kd.V_far (p := ⟨ad, 1, none⟩) (Kd.V_far (p := ⟨ad, 0, none⟩) (Kd.V_mono aq.out (fun k_ hk => (⟨hk, hk⟩ : _ ∧ k_ ≠ ad))) (fun _ hk => hk.2) (.slice bp av.length bo)) (fun _ hk => hk.2) (.slice bt ar.length bq)) (fun _ hk => hk.1)))⟩; have n2_ : Aside0 (w98.heap[ad]? = some (.cells #[.slice bp av.length bo, .slice bt ar.length bq] 25 (0, 0))) := ⟨(by rw [hw]; exact (by (with_reducible repeat (first | apply bn | apply bd | apply ba)); refine blk_put (cs := #[.slice bp av.length bo, .slice a_ l0_1.length bb]) ?_ 1 _ rfl; (with_reducible repeat (first | apply bn | apply bd | apply ba)); refine blk_put (cs := #[.slice bg l0_0.length bh, .slice a_ l0_1.length bb]) ?_ 0 _ rfl; exact bT ab.out))⟩; have n3_ : Aside0 (Below w.heap.size w w98) := ⟨(by rw [hw]; exact (by repeat (first | (with_reducible first | exact HB.out | apply pA | apply pN | apply pD | refine eU ?_ (by assumption)) | exact HB.out)))⟩; clear hw ap aq ab HB; have ap := n0_; have aq := n1_; have ab := n2_; have HB := n3_; clear n0_ n1_ n2_ n3_; have dC : w98.cell? ⟨ad, 0, none⟩ = some (.slice bp av.length bo) := cT ab 0; have dD : w98.cell? ⟨ad, 1, none⟩ = some (.slice bt ar.length bq) := cT ab 1; have dE := blk_frozen ab.out 0; have dF := blk_frozen ab.out 1) | ((with_reducible refine gate_callee (f := 11) rfl ?_); refine gL (some 23) Try.func11 #[.agg #[.slice bp av.length bo, .slice bt ar.length bq], .int .i64 a1, .int .i64 a2] ?_; (with_reducible refine (reach_Link.calls k (fun k_ => k_ ≠ ad) _ _ av (fun k_ => k_ ≠ ad) _ _ ar a1 a2 ao ah bi cv _ ?side1 ?side2 A5.out).mono ?_); (case side1 => exact ap.out); (case side2 => exact aq.out); rintro e eW ⟨dK, dL, aL, rfl, ho0, ho1, ho2, hb⟩; refine ⟨_, rfl, ?_⟩; replace ap := am (Kd.V_elder' (vT ap.out) (Kd.R_base ho2) hb); replace aq := am (Kd.V_elder' (vT aq.out) (Kd.R_base ho2) hb); have aD := am (Kd.V_lower (Kd.V_mono (ok' := fun k_ => some k_ ≠ (aL : Value).ownBlock ∧ k_ ≠ ad) ho0 (fun k_ hk_ => ⟨hk_.2, Or.elim hk_.1 (fun hs_ => Or.elim hs_ (fun hs_ => hs_) (fun hs_ => hs_)) (fun hn_ => (Kd.freshB (g := ad) (o := .cells #[.slice bp av.length bo, .slice bt ar.length bq] 25 (0, 0)) (bT ab.out) k_ hn_))⟩)) (below_size (by repeat (first | (with_reducible first | exact HB.out | apply pA | apply pN | apply pD | refine eU ?_ (by assumption)) | exact HB.out)))); have aE := am (Kd.V_lower (Kd.V_mono (ok' := fun k_ => some k_ ≠ (aL : Value).ownBlock ∧ k_ ≠ ad) ho1 (fun k_ hk_ => ⟨hk_.2, Or.elim hk_.1 (fun hs_ => Or.elim hs_ (fun hs_ => hs_) (fun hs_ => hs_)) (fun hn_ => (Kd.freshB (g := ad) (o := .cells #[.slice bp av.length bo, .slice bt ar.length bq] 25 (0, 0)) (bT ab.out) k_ hn_))⟩)) (below_size (by repeat (first | (with_reducible first | exact HB.out | apply pA | apply pN | apply pD | refine eU ?_ (by assumption)) | exact HB.out)))); have aF := am (Kd.R_lower (Kd.R_mono (ok' := fun k_ => True) ho2 (fun _ hk_ => trivial)) (below_size (by repeat (first | (with_reducible first | exact HB.out | apply pA | apply pN | apply pD | refine eU ?_ (by assumption)) | exact HB.out)))); replace ab := am (bB ab.out hb); replace HB := am (below_step (by repeat (first | (with_reducible first | exact HB.out | apply pA | apply pN | apply pD | refine eU ?_ (by assumption)) | exact HB.out)) hb); (try clear hb); (try clear hb2); (try clear hk); (try clear hi); (try clear ho0); (try clear ho1); (try clear ho2)) | ((with_reducible refine gate_dst (N := 7) rfl ?_); (try (refine gate_guard (by rfl) ?_; dsimp only)); refine box_event ?hg (N := 7) ?hd (cs := #[.slice none 0 0, .slice none 0 0]) (t := 25) ?hr ?_; (case hd => rfl); (case hg => rfl); (case hr => first | (go_simp; done) | (go_simp; rfl)); intro ac hg cL hbox hb; replace ap := am (Kd.V_below (Kd.V_elderB (vT ap.out) ac (Nat.le_of_eq hg.symm)) hb); replace aq := am (Kd.V_below (Kd.V_elderB (vT aq.out) ac (Nat.le_of_eq hg.symm)) hb); replace aD := am (Kd.V_below (Kd.V_elderB (vT aD.out) ac (Nat.le_of_eq hg.symm)) hb); replace aE := am (Kd.V_below (Kd.V_elderB (vT aE.out) ac (Nat.le_of_eq hg.symm)) hb); replace aF := am (rB aF.out hb); have ae := am (hbox); have cS := am ((by rw [hg]; exact (below_size (by repeat (first | (with_reducible first | exact HB.out | apply pA | apply pN | apply pD | refine eU ?_ (by assumption)) | exact HB.out))) : w.heap.size ≤ ac)); have cU := am ((by rw [hg]; exact (below_size (by repeat (first | (with_reducible first | exact HB.out | apply pA | apply pN | apply pD | refine eU ?_ (by assumption)) | exact HB.out))) : w.heap.size ≤ ac)); have aG := am ((nT ab.out hg)); have aJ := am ((mT ab.out hg)); replace ab := am (bB ab.out hb); replace HB := am (below_step (by repeat (first | (with_reducible first | exact HB.out | apply pA | apply pN | apply pD | refine eU ?_ (by assumption)) | exact HB.out)) hb); clear hb hbox hg; obtain ⟨a8, a7, de⟩ := Kd.V_slice aD.out; subst de; have d1 := aJ.out; have d2 := aG.out; have df : cL.cell? ⟨ac, 0, none⟩ = some (.slice none 0 0) := cT ae 0; have dg : cL.cell? ⟨ac, 1, none⟩ = some (.slice none 0 0) := cT ae 1; have dh := blk_frozen ae.out 0; have di := blk_frozen ae.out 1; obtain ⟨bc, a9, dj⟩ := Kd.V_slice aE.out; subst dj; have dk : cL.cell? ⟨ad, 0, none⟩ = some (.slice bp av.length bo) := cT ab 0; have dl : cL.cell? ⟨ad, 1, none⟩ = some (.slice bt ar.length bq) := cT ab 1; have dm := blk_frozen ab.out 0; have dn := blk_frozen ab.out 1) | ((with_reducible refine gate_callee (f := 13) rfl ?_); refine gL (some 31) Try.func13 #[.agg #[.slice a8 ao.length a7, .slice bc ah.length a9], .agg #[.slice bp av.length bo, .slice bt ar.length bq]] ?_; (with_reducible refine (graftwoodref15_Same.calls k _ _ ao _ _ ah _ _ av _ _ ar true _ ?side1 ?side2 ?side3 ?side4 ?side5 ?side6 ?side7 ?side8 A89.out).mono ?_); (case side1 => refine (Kd.V_reads' (e := 36) (base := w.heap.size) (ok := fun k_ => ((some k_ ≠ (aL : Value).ownBlock ∧ k_ ≠ ad) ∧ k_ ≠ ac)) (n := ao.length) (c := a7) ?_).2.2; exact (by (with_reducible repeat (first | apply Kd.V_alloc | apply Kd.V_drewN | apply Kd.V_drew)); exact (Kd.V_mono (Kd.V_far (p := ⟨ac, 1, none⟩) (Kd.V_far (p := ⟨ac, 0, none⟩) (Kd.V_mono aD.out (fun k_ hk => (⟨hk, hk.2⟩ : _ ∧ k_ ≠ ac))) (fun _ hk => hk.2) (.slice a8 ao.length a7)) (fun _ hk => hk.2) (.slice bc ah.length a9)) (fun _ h_ => h_.1)))); (case side2 => exact (Kd.V_reads' aD.out).2.1); (case side3 => refine (Kd.V_reads' (e := 3) (base := w.heap.size) (ok := fun k_ => ((some k_ ≠ (aL : Value).ownBlock ∧ k_ ≠ ad) ∧ k_ ≠ ac)) (n := ah.length) (c := a9) ?_).2.2; exact (by (with_reducible repeat (first | apply Kd.V_alloc | apply Kd.V_drewN | apply Kd.V_drew)); exact (Kd.V_mono (Kd.V_far (p := ⟨ac, 1, none⟩) (Kd.V_far (p := ⟨ac, 0, none⟩) (Kd.V_mono aE.out (fun k_ hk => (⟨hk, hk.2⟩ : _ ∧ k_ ≠ ac))) (fun _ hk => hk.2) (.slice a8 ao.length a7)) (fun _ hk => hk.2) (.slice bc ah.length a9)) (fun _ h_ => h_.1)))); (case side4 => exact (Kd.V_reads' aE.out).2.1); (case side5 => refine (Kd.V_reads' (e := 36) (base := w.heap.size) (ok := fun k_ => ((k_ ≠ ad ∧ some k_ ≠ (aL : Value).ownBlock) ∧ k_ ≠ ac)) (n := av.length) (c := bo) ?_).2.2; exact (by (with_reducible repeat (first | apply Kd.V_alloc | apply Kd.V_drewN | apply Kd.V_drew)); exact (Kd.V_mono (Kd.V_far (p := ⟨ac, 1, none⟩) (Kd.V_far (p := ⟨ac, 0, none⟩) (Kd.V_mono ap.out (fun k_ hk => (⟨hk, hk.2⟩ : _ ∧ k_ ≠ ac))) (fun _ hk => hk.2) (.slice a8 ao.length a7)) (fun _ hk => hk.2) (.slice bc ah.length a9)) (fun _ h_ => h_.1)))); (case side6 => exact (Kd.V_reads' ap.out).2.1); (case side7 => refine (Kd.V_reads' (e := 3) (base := w.heap.size) (ok := fun k_ => ((k_ ≠ ad ∧ some k_ ≠ (aL : Value).ownBlock) ∧ k_ ≠ ac)) (n := ar.length) (c := bq) ?_).2.2; exact (by (with_reducible repeat (first | apply Kd.V_alloc | apply Kd.V_drewN | apply Kd.V_drew)); exact (Kd.V_mono (Kd.V_far (p := ⟨ac, 1, none⟩) (Kd.V_far (p := ⟨ac, 0, none⟩) (Kd.V_mono aq.out (fun k_ hk => (⟨hk, hk.2⟩ : _ ∧ k_ ≠ ac))) (fun _ hk => hk.2) (.slice a8 ao.length a7)) (fun _ hk => hk.2) (.slice bc ah.length a9)) (fun _ h_ => h_.1)))); (case side8 => exact (Kd.V_reads' aq.out).2.1); rintro e eX ⟨rfl, hb⟩; refine ⟨_, rfl, ?_⟩; replace ap := am (Kd.V_below (by (with_reducible repeat (first | apply Kd.V_alloc | apply Kd.V_drewN | apply Kd.V_drew)); exact (Kd.V_mono (Kd.V_far (p := ⟨ac, 1, none⟩) (Kd.V_far (p := ⟨ac, 0, none⟩) (Kd.V_mono ap.out (fun k_ hk => (⟨hk, hk.2⟩ : _ ∧ k_ ≠ ac))) (fun _ hk => hk.2) (.slice a8 ao.length a7)) (fun _ hk => hk.2) (.slice bc ah.length a9)) (fun _ h_ => h_.1))) hb); replace aq := am (Kd.V_below (by (with_reducible repeat (first | apply Kd.V_alloc | apply Kd.V_drewN | apply Kd.V_drew)); exact (Kd.V_mono (Kd.V_far (p := ⟨ac, 1, none⟩) (Kd.V_far (p := ⟨ac, 0, none⟩) (Kd.V_mono aq.out (fun k_ hk => (⟨hk, hk.2⟩ : _ ∧ k_ ≠ ac))) (fun _ hk => hk.2) (.slice a8 ao.length a7)) (fun _ hk => hk.2) (.slice bc ah.length a9)) (fun _ h_ => h_.1))) hb); replace aD := am (Kd.V_below (by (with_reducible repeat (first | apply Kd.V_alloc | apply Kd.V_drewN | apply Kd.V_drew)); exact (Kd.V_mono (Kd.V_far (p := ⟨ac, 1, none⟩) (Kd.V_far (p := ⟨ac, 0, none⟩) (Kd.V_mono aD.out (fun k_ hk => (⟨hk, hk.2⟩ : _ ∧ k_ ≠ ac))) (fun _ hk => hk.2) (.slice a8 ao.length a7)) (fun _ hk => hk.2) (.slice bc ah.length a9)) (fun _ h_ => h_.1))) hb); replace aE := am (Kd.V_below (by (with_reducible repeat (first | apply Kd.V_alloc | apply Kd.V_drewN | apply Kd.V_drew)); exact (Kd.V_mono (Kd.V_far (p := ⟨ac, 1, none⟩) (Kd.V_far (p := ⟨ac, 0, none⟩) (Kd.V_mono aE.out (fun k_ hk => (⟨hk, hk.2⟩ : _ ∧ k_ ≠ ac))) (fun _ hk => hk.2) (.slice a8 ao.length a7)) (fun _ hk => hk.2) (.slice bc ah.length a9)) (fun _ h_ => h_.1))) hb); replace aF := am (Kd.R_below (by (with_reducible repeat (first | apply Kd.R_alloc | apply Kd.R_drewN | apply Kd.R_drew)); exact (Kd.R_mono (Kd.R_far (p := ⟨ac, 1, none⟩) (Kd.R_far (p := ⟨ac, 0, none⟩) (Kd.R_types aF.out ae.out (by decide)) (fun _ hk => hk.2) (.slice a8 ao.length a7)) (fun _ hk => hk.2) (.slice bc ah.length a9)) (fun _ h_ => h_.1))) hb); replace ab := am (blk_below (g := ad) (o := .cells #[.slice bp av.length bo, .slice bt ar.length bq] 25 (0, 0)) (by (with_reducible repeat (first | apply bn | apply bd | apply ba)); refine blk_far ?_ aG.out _; (with_reducible repeat (first | apply bn | apply bd | apply ba)); refine blk_far ?_ aG.out _; exact bT ab.out) hb); replace HB := am (below_step (by repeat (first | (with_reducible first | exact HB.out | apply pA | apply pN | apply pD | refine eU ?_ (by assumption)) | exact HB.out)) hb); replace ae := am (blk_below (g := ac) (o := .cells #[.slice a8 ao.length a7, .slice bc ah.length a9] 25 (0, 0)) (by (with_reducible repeat (first | apply bn | apply bd | apply ba)); refine blk_put (cs := #[.slice a8 ao.length a7, .slice none 0 0]) ?_ 1 _ rfl; (with_reducible repeat (first | apply bn | apply bd | apply ba)); refine blk_put (cs := #[.slice none 0 0, .slice none 0 0]) ?_ 0 _ rfl; exact bT ae.out) hb); (try clear hb); (try clear hb2); (try clear hk); (try clear hi)) | (go_at_call 14; (with_reducible refine (graftwoodlaw15_awake.calls k  bj _ A91.out (by first | exact hR_ | assumption)).mono ?_); rintro e eY ⟨rfl, hb⟩; replace ap := am (vB ap.out hb); replace aq := am (vB aq.out hb); replace aD := am (vB aD.out hb); replace aE := am (vB aE.out hb); replace aF := am (rB aF.out hb); replace ab := am (bB ab.out hb); replace ae := am (bB ae.out hb); replace HB := am (below_step (by repeat (first | (with_reducible first | exact HB.out | apply pA | apply pN | apply pD | refine eU ?_ (by assumption)) | exact HB.out)) hb); (try clear hb); (try clear hb2); (try clear hk); (try clear hi)))
   go_ret
   exact ⟨by first | rfl | (simp [errW_none, errW_some] <;> rfl) | (simp [*, errW_none, errW_some] <;> rfl), eT HB.out⟩
  ·replace c90 := Bool.eq_false_iff.mpr c90
   subst c90
   have H1 : (some false) = some r := by rw [if_neg (show ¬ (false = true) by decide)] at H; exact H
   clear H
   have H := H1
   clear H1
   exact absurd ((Option.some.inj H).trans hR_) (by decide)
end Go.Proofs.Ytpiamehededilaa.P
