-- Written by this project's own program (wip/tools/hp.py), driving the kit's print; hand texts among it. Not trusted: Lean checks it.
-- half the indentation
import Derived.Test.YtpiamehededilaaThen
import Derived.Test.YtpiamehededilaaP0
import Derived.Test.YtpiamehededilaaP2
import Derived.Test.YtpiamehededilaaP9
import Derived.Test.YtpiamehededilaaP10
import Derived.Test.YtpiamehededilaaP11
import Derived.Test.YtpiamehededilaaP12
import Derived.Test.YtpiamehededilaaP13
import Derived.Test.YtpiamehededilaaP20
namespace Go.Proofs.Ytpiamehededilaa.P
open Go.RowKit Go.Proofs.YtpiamehededilaaW.PrintWords Go.Proofs.YtpiamehededilaaW.PrintLast Go.Proofs.YtpiamehededilaaW.PrintMore
attribute [local go_sem] max2_int min2_int max_two min_two max_three min_three max_four min_four   -- for this text's walks alone
set_option linter.unusedVariables false
set_option linter.unusedSimpArgs false

/-! ### graftwoodlaw15_ReachOf: function 6 -/
def graftwoodlaw15_ReachOf.j0 : Nat → List (S36) → Int → Bool → List (S36) → List Int → Option (Bool)
 | 0, _, _, _, _, _ => none
 | k + 1, x0, x6, x30, aZ, a3 => if x30 = true then (some false) else ((graftwoodref11_May.f k x0).bind fun a8 => (if a8 = true then ((graftwoodref15_Live.f k x0).bind fun aO => ((graftwoodref15_Same.f k aZ a3 x0 aO).bind fun aP => (if aP = true then (if x6 = 0 then ((reach_Check.f k aZ a3).bind fun aE => (if aE = 0 then ((graftwoodlaw15_awake.f k).bind fun aK => (some aK)) else (some false))) else (some false)) else (some false)))) else ((graftwoodref15_Same.f k aZ a3 ([] : List (S36)) ([] : List Int)).bind fun aU => (if aU = true then (if x6 = 1 then ((graftwoodlaw15_awake.f k).bind fun aM => (some aM)) else (some false)) else (some false)))))
def graftwoodlaw15_ReachOf.f (k : Nat) (l0 : List (S36)) (l1_0 : List (S36)) (l1_1 : List Int) : Option (Bool) := (graftwoodlaw11_Few.f l0).bind fun aw => ((graftwoodlaw15_Few.f l1_0 l1_1).bind fun bt392 => ((reach_Of.f k aw).bind fun bt398 => ((reach_Check.f k bt392.1 bt392.2).bind fun aD => ((graftwoodref15_May.f k bt392.1 bt392.2).bind fun aC => (if ((aD == 0) != aC) = true then (graftwoodlaw15_ReachOf.j0 k aw bt398.2.2 true bt398.1 bt398.2.1) else ((reach_Same.f k bt398.1 bt398.2.1 bt392.1 bt392.2).bind fun aL => ((graftwoodref15_Same.f k bt398.1 bt398.2.1 bt392.1 bt392.2).bind fun aH => (graftwoodlaw15_ReachOf.j0 k aw bt398.2.2 (aL != aH) bt398.1 bt398.2.1))))))))
theorem graftwoodlaw15_ReachOf.mono_l : ∀ k, (∀ y0 y1 y2 y3 y4, LeO (graftwoodlaw15_ReachOf.j0 k y0 y1 y2 y3 y4) (graftwoodlaw15_ReachOf.j0 (k + 1) y0 y1 y2 y3 y4))
 | 0 => fun _ _ _ _ _ r h => by simp [graftwoodlaw15_ReachOf.j0] at h
 | k + 1 => by
  have ih0 := graftwoodlaw15_ReachOf.mono_l k
  ·intro y0 y1 y2 y3 y4
   unfold graftwoodlaw15_ReachOf.j0
   repeat' first
   | (with_reducible exact ih0 _ _ _ _ _)
   | (with_reducible exact graftwoodlaw15_awake.mono _)
   | (with_reducible exact graftwoodref11_May.mono _ _)
   | (with_reducible exact graftwoodref15_Live.mono _ _)
   | (with_reducible exact graftwoodref15_May.mono _ _ _)
   | (with_reducible exact graftwoodref15_Same.mono _ _ _ _ _)
   | (with_reducible exact reach_Check.mono _ _ _)
   | (with_reducible exact reach_Of.mono _ _)
   | (with_reducible exact reach_Same.mono _ _ _ _ _)
   | (with_reducible exact LeO.refl _)
   | (with_reducible exact LeO.none _)
   | (with_reducible refine LeO.ite ?_ ?_)
   | (with_reducible refine LeO.bind ?_ (fun _ => ?_))
   | exact ih0 _ _ _ _ _
   | exact graftwoodlaw15_awake.mono _
   | exact graftwoodref11_May.mono _ _
   | exact graftwoodref15_Live.mono _ _
   | exact graftwoodref15_May.mono _ _ _
   | exact graftwoodref15_Same.mono _ _ _ _ _
   | exact reach_Check.mono _ _ _
   | exact reach_Of.mono _ _
   | exact reach_Same.mono _ _ _ _ _
   | exact LeO.none _
   | refine LeO.ite ?_ ?_
   | refine LeO.bind ?_ (fun _ => ?_)
theorem graftwoodlaw15_ReachOf.mono : ∀ a0 a1 a2 k, LeO (graftwoodlaw15_ReachOf.f k a0 a1 a2) (graftwoodlaw15_ReachOf.f (k + 1) a0 a1 a2) := by
 intro a0 a1 a2 k
 have ih0 := graftwoodlaw15_ReachOf.mono_l k
 unfold graftwoodlaw15_ReachOf.f
 repeat' first
   | (with_reducible exact ih0 _ _ _ _ _)
   | (with_reducible exact graftwoodlaw15_awake.mono _)
   | (with_reducible exact graftwoodref11_May.mono _ _)
   | (with_reducible exact graftwoodref15_Live.mono _ _)
   | (with_reducible exact graftwoodref15_May.mono _ _ _)
   | (with_reducible exact graftwoodref15_Same.mono _ _ _ _ _)
   | (with_reducible exact reach_Check.mono _ _ _)
   | (with_reducible exact reach_Of.mono _ _)
   | (with_reducible exact reach_Same.mono _ _ _ _ _)
   | (with_reducible exact LeO.refl _)
   | (with_reducible exact LeO.none _)
   | (with_reducible refine LeO.ite ?_ ?_)
   | (with_reducible refine LeO.bind ?_ (fun _ => ?_))
   | exact ih0 _ _ _ _ _
   | exact graftwoodlaw15_awake.mono _
   | exact graftwoodref11_May.mono _ _
   | exact graftwoodref15_Live.mono _ _
   | exact graftwoodref15_May.mono _ _ _
   | exact graftwoodref15_Same.mono _ _ _ _ _
   | exact reach_Check.mono _ _ _
   | exact reach_Of.mono _ _
   | exact reach_Same.mono _ _ _ _ _
   | exact LeO.none _
   | refine LeO.ite ?_ ?_
   | refine LeO.bind ?_ (fun _ => ?_)
def graftwoodlaw15_ReachOf.T3 : Bool × List (List Nat × List Nat) := (true, [([], []), ([0], [0]), ([1], [1]), ([], []), ([3, 1], [3]), ([2, 4], [2, 4]), ([5, 4], [5]), ([6], [6]), ([6], [6]), ([7, 8, 6, 6], [6, 7, 8]), ([6], [6]), ([6], [6]), ([10, 11, 9, 6], [6, 10, 11]), ([9, 12, 6], [6, 9, 12]), ([6, 13], [6, 13])])
def graftwoodlaw15_ReachOf.B3 : List Nat := [0, 1, 3, 0, 11, 31, 63, 127, 127, 511, 127, 127, 4095, 8191, 16383]
theorem graftwoodlaw15_ReachOf.tab3 : rtab .any (opsOf Try.f6 3) = graftwoodlaw15_ReachOf.T3 := by kernel_rfl
theorem graftwoodlaw15_ReachOf.bits3 : waitsOk graftwoodlaw15_ReachOf.T3.2 graftwoodlaw15_ReachOf.B3 = true := by kernel_rfl
def graftwoodlaw15_ReachOf.T7 : Bool × List (List Nat × List Nat) := (true, [([], []), ([], []), ([], []), ([2], [2]), ([1, 3], [1, 3]), ([0, 4, 3], [0, 4]), ([5, 5], [5]), ([6], [6]), ([7, 6], [6, 7]), ([6, 8], [6, 8]), ([9, 6], [9]), ([10], [10]), ([11, 10, 10], [10, 11]), ([12, 10], [10, 12]), ([10, 13], [10, 13]), ([14, 12], [14]), ([15, 15], [15]), ([15, 16], [15, 16]), ([17, 16, 0, 1, 2, 3, 4, 5, 6, 7, 8, 9, 10, 11, 12, 13, 14, 15, 16, 17], [17])])
def graftwoodlaw15_ReachOf.B7 : List Nat := [0, 0, 0, 4, 14, 31, 63, 127, 255, 511, 1023, 2047, 4095, 8191, 16383, 32767, 65535, 131071, 262143]
theorem graftwoodlaw15_ReachOf.tab7 : rtab .any (opsOf Try.f6 7) = graftwoodlaw15_ReachOf.T7 := by kernel_rfl
theorem graftwoodlaw15_ReachOf.bits7 : waitsOk graftwoodlaw15_ReachOf.T7.2 graftwoodlaw15_ReachOf.B7 = true := by kernel_rfl
set_option maxHeartbeats 8000000 in
set_option maxRecDepth 100000 in
theorem graftwoodlaw15_ReachOf.calls (k : Nat) (A0 : Option Addr) (c0 : Nat) (l0 : List (S36)) (aV : Option Addr) (aW : Nat) (l1_0 : List (S36)) (aQ : Option Addr) (aR : Nat) (l1_1 : List Int) (r : Bool) (w : World) (hr0 : Kd.C k36 w A0 l0.length l0) (hc0 : l0.length ≤ c0) (hr1_0 : Kd.C k36 w aV l1_0.length l1_0) (hc1_0 : l1_0.length ≤ aW) (hr1_1 : Kd.C (Kd.int .i64) w aQ l1_1.length l1_1) (hc1_1 : l1_1.length ≤ aR) (h : graftwoodlaw15_ReachOf.f k l0 l1_0 l1_1 = some r) (hR_ : r = true) :
  Calls Try.prog 6 #[.slice A0 l0.length c0, .agg #[.slice aV l1_0.length aW, .slice aQ l1_1.length aR]] w fun e w' => e = .returned (.bool r) ∧ Below w.heap.size w w' := by
 have hu25 := Try.underlying25
 have HR0 := Aside0.mk hr0
 have HC0 := Aside0.mk hc0
 clear hr0 hc0
 have bb := Aside0.mk hr1_0
 have bc := Aside0.mk hc1_0
 clear hr1_0 hc1_0
 have be := Aside0.mk hr1_1
 have bf := Aside0.mk hc1_1
 clear hr1_1 hc1_1
 have HB := am (Below.refl w.heap.size w)
 have H : ((graftwoodlaw11_Few.f l0).bind fun aw => ((graftwoodlaw15_Few.f l1_0 l1_1).bind fun bt392 => ((reach_Of.f k aw).bind fun bt398 => ((reach_Check.f k bt392.1 bt392.2).bind fun aD => ((graftwoodref15_May.f k bt392.1 bt392.2).bind fun aC => (if ((aD == 0) != aC) = true then (graftwoodlaw15_ReachOf.j0 k aw bt398.2.2 true bt398.1 bt398.2.1) else ((reach_Same.f k bt398.1 bt398.2.1 bt392.1 bt392.2).bind fun aL => ((graftwoodref15_Same.f k bt398.1 bt398.2.1 bt392.1 bt392.2).bind fun aH => (graftwoodlaw15_ReachOf.j0 k aw bt398.2.2 (aL != aH) bt398.1 bt398.2.1))))))))) = some r := h
 clear h
 replace H := Option.bind_eq_some_iff.mp H
 obtain ⟨aw, A30, H⟩ := H
 replace H : ((graftwoodlaw15_Few.f l1_0 l1_1).bind fun bt392 => ((reach_Of.f k aw).bind fun bt398 => ((reach_Check.f k bt392.1 bt392.2).bind fun aD => ((graftwoodref15_May.f k bt392.1 bt392.2).bind fun aC => (if ((aD == 0) != aC) = true then (graftwoodlaw15_ReachOf.j0 k aw bt398.2.2 true bt398.1 bt398.2.1) else ((reach_Same.f k bt398.1 bt398.2.1 bt392.1 bt392.2).bind fun aL => ((graftwoodref15_Same.f k bt398.1 bt398.2.1 bt392.1 bt392.2).bind fun aH => (graftwoodlaw15_ReachOf.j0 k aw bt398.2.2 (aL != aH) bt398.1 bt398.2.1)))))))) = some r := H
 have A3 := Aside0.mk A30
 clear A30
 replace H := Option.bind_eq_some_iff.mp H
 obtain ⟨⟨ax, ay⟩, A40, H⟩ := H
 replace H : ((reach_Of.f k aw).bind fun bt398 => ((reach_Check.f k ax ay).bind fun aD => ((graftwoodref15_May.f k ax ay).bind fun aC => (if ((aD == 0) != aC) = true then (graftwoodlaw15_ReachOf.j0 k aw bt398.2.2 true bt398.1 bt398.2.1) else ((reach_Same.f k bt398.1 bt398.2.1 ax ay).bind fun aL => ((graftwoodref15_Same.f k bt398.1 bt398.2.1 ax ay).bind fun aH => (graftwoodlaw15_ReachOf.j0 k aw bt398.2.2 (aL != aH) bt398.1 bt398.2.1))))))) = some r := H
 have A4 := Aside0.mk A40
 clear A40
 replace H := Option.bind_eq_some_iff.mp H
 obtain ⟨⟨ae, ag, az⟩, A50, H⟩ := H
 replace H : ((reach_Check.f k ax ay).bind fun aD => ((graftwoodref15_May.f k ax ay).bind fun aC => (if ((aD == 0) != aC) = true then (graftwoodlaw15_ReachOf.j0 k aw az true ae ag) else ((reach_Same.f k ae ag ax ay).bind fun aL => ((graftwoodref15_Same.f k ae ag ax ay).bind fun aH => (graftwoodlaw15_ReachOf.j0 k aw az (aL != aH) ae ag)))))) = some r := H
 have A5 := Aside0.mk A50
 clear A50
 have HC6 := Aside0.mk H
 clear H
 go_enter Try.func6, Try.ntmps6
 try go_wp2_with (first | ((with_reducible refine gate_dst (N := 3) rfl ?_); refine box_event ?hg (N := 3) ?hd (cs := #[.slice aV l1_0.length aW, .slice aQ l1_1.length aR]) (t := 25) ?hr ?_; (case hd => rfl); (case hg => rfl); (case hr => first | (go_simp; done) | (go_simp; rfl)); intro al hg w7 hbox hb; have aa := am (hbox); have a5 := am ((gT hg HB.out)); have bR := am ((gT hg HB.out)); replace HB := am (sT HB.out hb); clear hb hbox hg))
 replace aa := am (blk_drew aa.out)
 replace HB := am (below_drew1 HB.out)
 refine start_ (n := 6) (S := fun w' => w'.cell? ⟨al, 0, none⟩ = some (.slice aV l1_0.length aW) ∧ w'.cell? ⟨al, 1, none⟩ = some (.slice aQ l1_1.length aR)) (ds := [5]) (bA 6 0) (by kernel_rfl) rfl (by kernel_rfl) ⟨cT aa 0, cT aa 1⟩ (fun hHeld => ?_)
 generalize w7.drew = w8 at aa HB hHeld ⊢
 refine pure_ (i := 0) (N := some 7) (v := ?_) (a' := ?_) (bA 6 1) rfl rfl (by kernel_rfl) (fun _ _ _ h => h) (Or.inl ⟨by rfl, ?_⟩) ?_ ?_
 rotate_left
 ·intro w'
  go_simp
  with_reducible rfl
 rotate_left
 ·simp only [pS]
  rfl
 refine take_ (i := 2) (N := some 9) (v := ?_) (a' := ?_) (bA 6 5) rfl rfl (by kernel_rfl) (fun _ _ _ h => h) (Or.inl ⟨by rfl, ?_⟩) hHeld ?_ ?_
 rotate_left
 ·rintro w' ⟨s0, s1⟩
  go_simp
  with_reducible rfl
 rotate_left
 ·simp only [pS]
  rfl
 refine one_ (i := 1) (N := some 8) (bA 6 7) rfl rfl (by kernel_rfl) (by decide) (fun K hK => ?_)
 refine gS Try.func21 #[.slice A0 l0.length c0] ?_
 with_reducible refine (graftwoodlaw11_Few.calls (fun k_ => k_ < w.heap.size) _ _ l0 aw _ ?side1 A3.out).mono ?_
 (case side1 => exact Kd.V_mk HC0.out (Kd.F_below (Kd.C_F k36_heap HR0.out) (eT HB.out)))
 rintro e w9 ⟨b3, rfl, ho0, hb⟩
 refine ⟨_, rfl, ?_⟩
 have an := am (Kd.V_lower (Kd.V_mono (ok' := fun k_ => k_ ≠ al) ho0 (fun k_ hk_ => Or.elim hk_ (fun hs_ => fun e_ => Nat.not_le.2 hs_ (by rw [e_]; exact a5.out)) (fun hn_ => (Kd.freshB (g := al) (o := .cells #[.slice aV l1_0.length aW, .slice aQ l1_1.length aR] 25 (0, 0)) (bT aa.out) k_ hn_)))) (below_size (eT HB.out)))
 replace aa := am (bB aa.out hb)
 replace HB := am (sT HB.out hb)
 (try clear hb)
 (try clear hb2)
 (try clear hk)
 (try clear hi)
 (try clear ho0)
 refine hK.out _ _ ⟨cT aa 0, cT aa 1⟩ (fun hHeld => ?_)
 clear hK K
 refine mN 8 ?_
 refine one_ (i := 3) (N := some 10) (bA 6 15) rfl rfl (by kernel_rfl) (by decide) (fun K hK => ?_)
 refine gS Try.func10 #[.agg #[.slice aV l1_0.length aW, .slice aQ l1_1.length aR]] ?_
 with_reducible refine (graftwoodlaw15_Few.calls (fun k_ => k_ < w.heap.size) _ _ l1_0 (fun k_ => k_ < w.heap.size) _ _ l1_1 ax ay _ ?side1 ?side2 A4.out).mono ?_
 (case side1 => exact Kd.V_mk bc.out (Kd.F_below (Kd.C_F k36_heap bb.out) (eT HB.out)))
 (case side2 => exact Kd.V_mk bf.out (Kd.F_below (Kd.C_F (Kd.heap_int .i64) be.out) (eT HB.out)))
 rintro e w10 ⟨b4, b5, rfl, ho0, ho1, hb⟩
 refine ⟨_, rfl, ?_⟩
 replace an := am (vB an.out hb)
 have aj := am (Kd.V_lower (Kd.V_mono (ok' := fun k_ => k_ ≠ al) ho0 (fun k_ hk_ => Or.elim hk_ (fun hs_ => Or.elim hs_ (fun hs_ => fun e_ => Nat.not_le.2 hs_ (by rw [e_]; exact a5.out)) (fun hs_ => fun e_ => Nat.not_le.2 hs_ (by rw [e_]; exact a5.out))) (fun hn_ => (Kd.freshB (g := al) (o := .cells #[.slice aV l1_0.length aW, .slice aQ l1_1.length aR] 25 (0, 0)) (bT aa.out) k_ hn_)))) (below_size (eT HB.out)))
 have ak := am (Kd.V_lower (Kd.V_mono (ok' := fun k_ => k_ ≠ al) ho1 (fun k_ hk_ => Or.elim hk_ (fun hs_ => Or.elim hs_ (fun hs_ => fun e_ => Nat.not_le.2 hs_ (by rw [e_]; exact a5.out)) (fun hs_ => fun e_ => Nat.not_le.2 hs_ (by rw [e_]; exact a5.out))) (fun hn_ => (Kd.freshB (g := al) (o := .cells #[.slice aV l1_0.length aW, .slice aQ l1_1.length aR] 25 (0, 0)) (bT aa.out) k_ hn_)))) (below_size (eT HB.out)))
 replace aa := am (bB aa.out hb)
 replace HB := am (sT HB.out hb)
 (try clear hb)
 (try clear hb2)
 (try clear hk)
 (try clear hi)
 (try clear ho0)
 (try clear ho1)
 obtain ⟨aF, aG, bg⟩ := Kd.V_slice aj.out
 (first | subst bg | (injection bg with f1_ f2_ f3_; have f4_ := f1_.symm; have f5_ := f3_.symm; clear f1_ f2_ f3_; subst f4_; subst f5_))
 obtain ⟨aI, aJ, bh⟩ := Kd.V_slice ak.out
 (first | subst bh | (injection bh with f1_ f2_ f3_; have f4_ := f1_.symm; have f5_ := f3_.symm; clear f1_ f2_ f3_; subst f4_; subst f5_))
 refine hK.out _ _ ⟨cT aa 0, cT aa 1⟩ (fun hHeld => ?_)
 clear hK K
 refine mN 10 ?_
 refine pure_ (i := 4) (N := some 0) (v := ?_) (a' := ?_) (bA 6 31) rfl rfl (by kernel_rfl) (fun _ _ _ h => h) (Or.inl ⟨by rfl, ?_⟩) ?_ ?_
 rotate_left
 ·intro w'
  go_simp
  with_reducible rfl
 rotate_left
 ·simp only [pS]
  rfl
 refine last_ (i := 5) (N := none) (bA 6 63) rfl rfl (by kernel_rfl) (by decide) (fun K hK => ?_)
 have b6 : w10.cell? ⟨al, 0, none⟩ = some (.slice aV l1_0.length aW) := cT aa 0
 have bS := blk_frozen aa.out 0
 have b7 : w10.cell? ⟨al, 1, none⟩ = some (.slice aQ l1_1.length aR) := cT aa 1
 have bU := blk_frozen aa.out 1
 refine skip_ (w1 := ?_) (by rfl) rfl ?_ ?_
 rotate_left
 ·go_simp
  rfl
 refine hK.out _ _ ?_
 clear hK K
 refine done_ (by kernel_rfl) ?_
 obtain ⟨a6, a4, bM⟩ := Kd.V_slice an.out
 subst bM
 go_upto_region 3 with (first | ((with_reducible refine gate_callee (f := 22) rfl ?_); refine gL (some 13) Try.func22 #[.slice a6 aw.length a4] ?_; (with_reducible refine (reach_Of.calls k _ _ aw ae ag az _ ?side1 ?side2 A5.out).mono ?_); (case side1 => refine (Kd.V_reads' (e := 36) (base := w.heap.size) (ok := fun k_ => k_ ≠ al) (n := aw.length) (c := a4) ?_).2.2; exact (by (with_reducible repeat (first | apply Kd.V_alloc | apply Kd.V_drewN | apply Kd.V_drew)); exact (Kd.V_mono (Kd.V_far (p := ⟨al, 1, none⟩) (Kd.V_far (p := ⟨al, 0, none⟩) (Kd.V_mono an.out (fun k_ hk => (⟨hk, hk⟩ : _ ∧ k_ ≠ al))) (fun _ hk => hk.2) (.slice aF ax.length aG)) (fun _ hk => hk.2) (.slice aI ay.length aJ)) (fun _ h_ => h_.1)))); (case side2 => exact (Kd.V_reads' an.out).2.1); rintro e w16 ⟨b8, b9, rfl, ho0, ho1, hb⟩; refine ⟨_, rfl, ?_⟩; replace an := am (Kd.V_mono (Kd.V_told (Kd.V_told (Kd.V_old (by (with_reducible repeat (first | apply Kd.V_alloc | apply Kd.V_drewN | apply Kd.V_drew)); exact (Kd.V_mono (Kd.V_far (p := ⟨al, 1, none⟩) (Kd.V_far (p := ⟨al, 0, none⟩) (Kd.V_mono an.out (fun k_ hk => (⟨hk, hk⟩ : _ ∧ k_ ≠ al))) (fun _ hk => hk.2) (.slice aF ax.length aG)) (fun _ hk => hk.2) (.slice aI ay.length aJ)) (fun _ h_ => h_.1))) hb) (Kd.R_base ho0)) (Kd.R_base ho1)) (fun _ h_ => h_.1)); replace aj := am (Kd.V_mono (Kd.V_told (Kd.V_told (Kd.V_old (by (with_reducible repeat (first | apply Kd.V_alloc | apply Kd.V_drewN | apply Kd.V_drew)); exact (Kd.V_mono (Kd.V_far (p := ⟨al, 1, none⟩) (Kd.V_far (p := ⟨al, 0, none⟩) (Kd.V_mono aj.out (fun k_ hk => (⟨hk, hk⟩ : _ ∧ k_ ≠ al))) (fun _ hk => hk.2) (.slice aF ax.length aG)) (fun _ hk => hk.2) (.slice aI ay.length aJ)) (fun _ h_ => h_.1))) hb) (Kd.R_base ho0)) (Kd.R_base ho1)) (fun _ h_ => h_.1)); replace ak := am (Kd.V_mono (Kd.V_told (Kd.V_told (Kd.V_old (by (with_reducible repeat (first | apply Kd.V_alloc | apply Kd.V_drewN | apply Kd.V_drew)); exact (Kd.V_mono (Kd.V_far (p := ⟨al, 1, none⟩) (Kd.V_far (p := ⟨al, 0, none⟩) (Kd.V_mono ak.out (fun k_ hk => (⟨hk, hk⟩ : _ ∧ k_ ≠ al))) (fun _ hk => hk.2) (.slice aF ax.length aG)) (fun _ hk => hk.2) (.slice aI ay.length aJ)) (fun _ h_ => h_.1))) hb) (Kd.R_base ho0)) (Kd.R_base ho1)) (fun _ h_ => h_.1)); have au := am (Kd.R_lower ho0 (below_size (by repeat (first | (with_reducible first | exact HB.out | apply pA | apply pN | apply pD | refine eU ?_ (by assumption)) | exact HB.out)))); have av := am (Kd.R_lower ho1 (below_size (by repeat (first | (with_reducible first | exact HB.out | apply pA | apply pN | apply pD | refine eU ?_ (by assumption)) | exact HB.out)))); replace aa := am (blk_below (g := al) (o := .cells #[.slice aF ax.length aG, .slice aI ay.length aJ] 25 (0, 0)) (by (with_reducible repeat (first | apply bn | apply bd | apply ba)); refine blk_put (cs := #[.slice aF ax.length aG, .slice aQ l1_1.length aR]) ?_ 1 _ rfl; (with_reducible repeat (first | apply bn | apply bd | apply ba)); refine blk_put (cs := #[.slice aV l1_0.length aW, .slice aQ l1_1.length aR]) ?_ 0 _ rfl; exact bT aa.out) hb); replace HB := am (below_step (by repeat (first | (with_reducible first | exact HB.out | apply pA | apply pN | apply pD | refine eU ?_ (by assumption)) | exact HB.out)) hb); (try clear hb); (try clear hb2); (try clear hk); (try clear hi); (try clear ho0); (try clear ho1)) | ((with_reducible refine gate_dst (N := 5) rfl ?_); refine box_event ?hg (N := 5) ?hd (cs := #[.slice none 0 0, .slice none 0 0]) (t := 25) ?hr ?_; (case hd => rfl); (case hg => rfl); (case hr => first | (go_simp; done) | (go_simp; rfl)); intro ab hg w17 hbox hb; replace an := am (Kd.V_below (Kd.V_elderB (vT an.out) ab (Nat.le_of_eq hg.symm)) hb); replace aj := am (Kd.V_below (Kd.V_elderB (vT aj.out) ab (Nat.le_of_eq hg.symm)) hb); replace ak := am (Kd.V_below (Kd.V_elderB (vT ak.out) ab (Nat.le_of_eq hg.symm)) hb); replace au := am (rB au.out hb); replace av := am (rB av.out hb); have ac := am (hbox); have bV := am ((by rw [hg]; exact (below_size (by repeat (first | (with_reducible first | exact HB.out | apply pA | apply pN | apply pD | refine eU ?_ (by assumption)) | exact HB.out))) : w.heap.size ≤ ab)); have bW := am ((by rw [hg]; exact (below_size (by repeat (first | (with_reducible first | exact HB.out | apply pA | apply pN | apply pD | refine eU ?_ (by assumption)) | exact HB.out))) : w.heap.size ≤ ab)); have aB := am ((nT aa.out hg)); have aX := am ((mT aa.out hg)); replace aa := am (bB aa.out hb); replace HB := am (below_step (by repeat (first | (with_reducible first | exact HB.out | apply pA | apply pN | apply pD | refine eU ?_ (by assumption)) | exact HB.out)) hb); clear hb hbox hg; obtain ⟨ao, ap, bN⟩ := Kd.R_slice au.out; subst bN; have bX := aX.out; have bZ := aB.out; have bE : w17.cell? ⟨ab, 0, none⟩ = some (.slice none 0 0) := cT ac 0; have bF : w17.cell? ⟨ab, 1, none⟩ = some (.slice none 0 0) := cT ac 1; have bG := blk_frozen ac.out 0; have bH := blk_frozen ac.out 1; obtain ⟨aq, ar, bO⟩ := Kd.R_slice av.out; subst bO))
 (try simp only [Act.put, List.setIfInBounds_toArray, List.set_cons_zero, List.set_cons_succ])
 go_cut [30] (fun v30 wc => ∃ (kq : Nat) (a7 : Bool), v30 = .bool a7 ∧ Aside0 (graftwoodlaw15_ReachOf.j0 kq aw az a7 ae ag = some r) ∧ Aside0 (kq ≤ k) ∧ Aside0 (Kd.V k36 36 wc w.heap.size (fun k_ => some k_ ≠ ((.slice ao ae.length ap) : Value).ownBlock ∧ some k_ ≠ ((.slice aq ag.length ar) : Value).ownBlock ∧ k_ ≠ al ∧ k_ ≠ ab) (.slice a6 aw.length a4) aw) ∧ Aside0 (Kd.V k36 36 wc w.heap.size (fun k_ => some k_ ≠ ((.slice ao ae.length ap) : Value).ownBlock ∧ some k_ ≠ ((.slice aq ag.length ar) : Value).ownBlock ∧ k_ ≠ al ∧ k_ ≠ ab) (.slice aF ax.length aG) ax) ∧ Aside0 (Kd.V (Kd.int .i64) 3 wc w.heap.size (fun k_ => some k_ ≠ ((.slice ao ae.length ap) : Value).ownBlock ∧ some k_ ≠ ((.slice aq ag.length ar) : Value).ownBlock ∧ k_ ≠ al ∧ k_ ≠ ab) (.slice aI ay.length aJ) ay) ∧ Aside0 (Kd.R k36 36 wc w.heap.size (fun _ => True) (.slice ao ae.length ap) ae) ∧ Aside0 (Kd.R (Kd.int .i64) 3 wc w.heap.size (fun _ => True) (.slice aq ag.length ar) ag) ∧ Aside0 (wc.heap[al]? = some (.cells #[(.slice aF ax.length aG), (.slice aI ay.length aJ)] 25 (0, 0))) ∧ Aside0 (wc.heap[ab]? = some (.cells #[(.slice ao ae.length ap), (.slice aq ag.length ar)] 25 (0, 0))) ∧ Aside0 (Below w.heap.size w wc))
 case first =>
  have H := HC6.out
  clear HC6
  replace H := Option.bind_eq_some_iff.mp H
  obtain ⟨aD, bi, H⟩ := H
  replace H : ((graftwoodref15_May.f k ax ay).bind fun aC => (if ((aD == 0) != aC) = true then (graftwoodlaw15_ReachOf.j0 k aw az true ae ag) else ((reach_Same.f k ae ag ax ay).bind fun aL => ((graftwoodref15_Same.f k ae ag ax ay).bind fun aH => (graftwoodlaw15_ReachOf.j0 k aw az (aL != aH) ae ag))))) = some r := H
  have A22 := Aside0.mk bi
  clear bi
  replace H := Option.bind_eq_some_iff.mp H
  obtain ⟨aC, bj, H⟩ := H
  replace H : (if ((aD == 0) != aC) = true then (graftwoodlaw15_ReachOf.j0 k aw az true ae ag) else ((reach_Same.f k ae ag ax ay).bind fun aL => ((graftwoodref15_Same.f k ae ag ax ay).bind fun aH => (graftwoodlaw15_ReachOf.j0 k aw az (aL != aH) ae ag)))) = some r := H
  have A23 := Aside0.mk bj
  clear bj
  by_cases c24 : ((aD == 0) != aC) = true
  ·rw [if_pos c24] at H
   have aY : ((aD == 0) != aC) = true := c24
   (try (have a9 : decide ((aD == 0) = aC) = false := by simpa using c24))
   (try (have a_ : ((aD == 0) == aC) = false := by simpa using c24))
   (try (have b0 : ¬ ((aD == 0) = aC) := by simpa using c24))
   clear c24
   (first | rw [aY] | (simp only [i64_w, i32_w]; rw [aY]) | skip)
   have H' := Aside0.mk H
   clear H
   try go_wp2
   have n0_ : Aside0 (Kd.V k36 36 ((w17.setCell ⟨ab, 0, none⟩ (.slice ao ae.length ap)).setCell ⟨ab, 1, none⟩ (.slice aq ag.length ar)) w.heap.size (fun k_ => some k_ ≠ (.slice ao ae.length ap : Value).ownBlock ∧ some k_ ≠ (.slice aq ag.length ar : Value).ownBlock ∧ k_ ≠ al ∧ k_ ≠ ab) (.slice a6 aw.length a4) aw) := ⟨by (with_reducible repeat (first | apply Kd.V_alloc | apply Kd.V_drewN | apply Kd.V_drew)); exact Kd.V_mono (Kd.V_far (p := ⟨ab, 1, none⟩) (Kd.V_far (p := ⟨ab, 0, none⟩) (Kd.V_mono an.out (fun k_ hk => (⟨hk, hk.2⟩ : _ ∧ k_ ≠ ab))) (fun _ hk => hk.2) (.slice ao ae.length ap)) (fun _ hk => hk.2) (.slice aq ag.length ar)) (fun _ hk => ⟨hk.1.1.1.2, ⟨hk.1.1.2, ⟨hk.1.1.1.1, hk.1.2⟩⟩⟩)⟩
   have n1_ : Aside0 (Kd.V k36 36 ((w17.setCell ⟨ab, 0, none⟩ (.slice ao ae.length ap)).setCell ⟨ab, 1, none⟩ (.slice aq ag.length ar)) w.heap.size (fun k_ => some k_ ≠ (.slice ao ae.length ap : Value).ownBlock ∧ some k_ ≠ (.slice aq ag.length ar : Value).ownBlock ∧ k_ ≠ al ∧ k_ ≠ ab) (.slice aF ax.length aG) ax) := ⟨by (with_reducible repeat (first | apply Kd.V_alloc | apply Kd.V_drewN | apply Kd.V_drew)); exact Kd.V_mono (Kd.V_far (p := ⟨ab, 1, none⟩) (Kd.V_far (p := ⟨ab, 0, none⟩) (Kd.V_mono aj.out (fun k_ hk => (⟨hk, hk.2⟩ : _ ∧ k_ ≠ ab))) (fun _ hk => hk.2) (.slice ao ae.length ap)) (fun _ hk => hk.2) (.slice aq ag.length ar)) (fun _ hk => ⟨hk.1.1.1.2, ⟨hk.1.1.2, ⟨hk.1.1.1.1, hk.1.2⟩⟩⟩)⟩
   have n2_ : Aside0 (Kd.V (Kd.int .i64) 3 ((w17.setCell ⟨ab, 0, none⟩ (.slice ao ae.length ap)).setCell ⟨ab, 1, none⟩ (.slice aq ag.length ar)) w.heap.size (fun k_ => some k_ ≠ (.slice ao ae.length ap : Value).ownBlock ∧ some k_ ≠ (.slice aq ag.length ar : Value).ownBlock ∧ k_ ≠ al ∧ k_ ≠ ab) (.slice aI ay.length aJ) ay) := ⟨by (with_reducible repeat (first | apply Kd.V_alloc | apply Kd.V_drewN | apply Kd.V_drew)); exact Kd.V_mono (Kd.V_far (p := ⟨ab, 1, none⟩) (Kd.V_far (p := ⟨ab, 0, none⟩) (Kd.V_mono ak.out (fun k_ hk => (⟨hk, hk.2⟩ : _ ∧ k_ ≠ ab))) (fun _ hk => hk.2) (.slice ao ae.length ap)) (fun _ hk => hk.2) (.slice aq ag.length ar)) (fun _ hk => ⟨hk.1.1.1.2, ⟨hk.1.1.2, ⟨hk.1.1.1.1, hk.1.2⟩⟩⟩)⟩
   have n3_ : Aside0 (Kd.R k36 36 ((w17.setCell ⟨ab, 0, none⟩ (.slice ao ae.length ap)).setCell ⟨ab, 1, none⟩ (.slice aq ag.length ar)) w.heap.size (fun _ => True) (.slice ao ae.length ap) ae) := ⟨by (with_reducible repeat (first | apply Kd.R_alloc | apply Kd.R_drewN | apply Kd.R_drew)); exact Kd.R_mono (Kd.R_far (p := ⟨ab, 1, none⟩) (Kd.R_far (p := ⟨ab, 0, none⟩) (Kd.R_types au.out ac.out (by decide)) (fun _ hk => hk.2) (.slice ao ae.length ap)) (fun _ hk => hk.2) (.slice aq ag.length ar)) (fun _ hk => trivial)⟩
   have n4_ : Aside0 (Kd.R (Kd.int .i64) 3 ((w17.setCell ⟨ab, 0, none⟩ (.slice ao ae.length ap)).setCell ⟨ab, 1, none⟩ (.slice aq ag.length ar)) w.heap.size (fun _ => True) (.slice aq ag.length ar) ag) := ⟨by (with_reducible repeat (first | apply Kd.R_alloc | apply Kd.R_drewN | apply Kd.R_drew)); exact Kd.R_mono (Kd.R_far (p := ⟨ab, 1, none⟩) (Kd.R_far (p := ⟨ab, 0, none⟩) (Kd.R_types av.out ac.out (by decide)) (fun _ hk => hk.2) (.slice ao ae.length ap)) (fun _ hk => hk.2) (.slice aq ag.length ar)) (fun _ hk => trivial)⟩
   have n5_ : Aside0 (((w17.setCell ⟨ab, 0, none⟩ (.slice ao ae.length ap)).setCell ⟨ab, 1, none⟩ (.slice aq ag.length ar)).heap[al]? = some (.cells #[.slice aF ax.length aG, .slice aI ay.length aJ] 25 (0, 0))) := ⟨by (with_reducible repeat (first | apply bn | apply bd | apply ba)); refine blk_far ?_ aB.out _; (with_reducible repeat (first | apply bn | apply bd | apply ba)); refine blk_far ?_ aB.out _; exact bT aa.out⟩
   have n6_ : Aside0 (((w17.setCell ⟨ab, 0, none⟩ (.slice ao ae.length ap)).setCell ⟨ab, 1, none⟩ (.slice aq ag.length ar)).heap[ab]? = some (.cells #[.slice ao ae.length ap, .slice aq ag.length ar] 25 (0, 0))) := ⟨by (with_reducible repeat (first | apply bn | apply bd | apply ba)); refine blk_put (cs := #[.slice ao ae.length ap, .slice none 0 0]) ?_ 1 _ rfl; (with_reducible repeat (first | apply bn | apply bd | apply ba)); refine blk_put (cs := #[.slice none 0 0, .slice none 0 0]) ?_ 0 _ rfl; exact bT ac.out⟩
   have n7_ : Aside0 (Below w.heap.size w ((w17.setCell ⟨ab, 0, none⟩ (.slice ao ae.length ap)).setCell ⟨ab, 1, none⟩ (.slice aq ag.length ar))) := ⟨by repeat (first | (with_reducible first | exact HB.out | apply pA | apply pN | apply pD | refine eU ?_ (by assumption)) | exact HB.out)⟩
   (try clear an)
   (try clear aj)
   (try clear ak)
   (try clear au)
   (try clear av)
   (try clear aa)
   (try clear ac)
   (try clear HB)
   generalize ((w17.setCell ⟨ab, 0, none⟩ (.slice ao ae.length ap)).setCell ⟨ab, 1, none⟩ (.slice aq ag.length ar)) = w25 at n0_ n1_ n2_ n3_ n4_ n5_ n6_ n7_ ⊢
   have an := n0_
   have aj := n1_
   have ak := n2_
   have au := n3_
   have av := n4_
   have aa := n5_
   have ac := n6_
   have HB := n7_
   clear n0_ n1_ n2_ n3_ n4_ n5_ n6_ n7_
   replace an := am (Kd.V_drew an.out)
   replace aj := am (Kd.V_drew aj.out)
   replace ak := am (Kd.V_drew ak.out)
   replace au := am (Kd.R_drew au.out)
   replace av := am (Kd.R_drew av.out)
   replace aa := am (blk_drew aa.out)
   replace ac := am (blk_drew ac.out)
   replace HB := am (below_drew1 HB.out)
   refine start_ (n := 15) (S := fun w' => w'.cell? ⟨al, 0, none⟩ = some (.slice aF ax.length aG) ∧ w'.cell? ⟨al, 1, none⟩ = some (.slice aI ay.length aJ)) (ds := []) (bA 15 0) (by kernel_rfl) rfl (by kernel_rfl) ⟨cT aa 0, cT aa 1⟩ (fun hHeld => ?_); refine with_tabW graftwoodlaw15_ReachOf.tab3 graftwoodlaw15_ReachOf.bits3 (fun HT_ HW_ => ?_)
   generalize w25.drew = w26 at an aj ak au av aa ac HB hHeld ⊢
   refine tT 0 16 (bA 15 1) HT_.out HW_.out hHeld ?_ (hy := by rintro w' ⟨s0, s1⟩; go_simp; with_reducible rfl)
   refine tT 3 19 (bA 15 9) HT_.out HW_.out hHeld ?_ (hy := by rintro w' ⟨s0, s1⟩; go_simp; with_reducible rfl)
   refine oT 1 (bA 15 11) HT_.out fun K hK => ?_
   refine gS Try.func26 #[.agg #[.slice aF ax.length aG, .slice aI ay.length aJ]] ?_
   with_reducible refine (reach_Check.calls k _ _ ax _ _ ay aD _ ?side1 ?side2 ?side3 ?side4 A22.out).mono ?_
   (case side1 => exact cW (Kd.V_reads' aj.out).2.2)
   (case side2 => exact (Kd.V_reads' aj.out).2.1)
   (case side3 => exact cW (Kd.V_reads' ak.out).2.2)
   (case side4 => exact (Kd.V_reads' ak.out).2.1)
   rintro e w27 ⟨rfl, hb⟩
   refine ⟨_, rfl, ?_⟩
   replace an := am (vB an.out hb)
   replace aj := am (vB aj.out hb)
   replace ak := am (vB ak.out hb)
   replace au := am (rB au.out hb)
   replace av := am (rB av.out hb)
   replace aa := am (bB aa.out hb)
   replace ac := am (bB ac.out hb)
   replace HB := am (sT HB.out hb)
   (try clear hb)
   (try clear hb2)
   (try clear hk)
   (try clear hi)
   refine hK.out _ _ ⟨cT aa 0, cT aa 1⟩ (fun hHeld => ?_)
   clear hK K
   refine mN 17 ?_
   refine pT 2 18 (bA 15 15) HT_.out ?_
   refine oT 4 (bA 15 31) HT_.out fun K hK => ?_
   refine gS Try.func12 #[.agg #[.slice aF ax.length aG, .slice aI ay.length aJ]] ?_
   with_reducible refine (graftwoodref15_May.calls k _ _ ax _ _ ay aC _ ?side1 ?side2 ?side3 ?side4 A23.out).mono ?_
   (case side1 => exact cW (Kd.V_reads' aj.out).2.2)
   (case side2 => exact (Kd.V_reads' aj.out).2.1)
   (case side3 => exact cW (Kd.V_reads' ak.out).2.2)
   (case side4 => exact (Kd.V_reads' ak.out).2.1)
   rintro e w28 ⟨rfl, hb⟩
   refine ⟨_, rfl, ?_⟩
   replace an := am (vB an.out hb)
   replace aj := am (vB aj.out hb)
   replace ak := am (vB ak.out hb)
   replace au := am (rB au.out hb)
   replace av := am (rB av.out hb)
   replace aa := am (bB aa.out hb)
   replace ac := am (bB ac.out hb)
   replace HB := am (sT HB.out hb)
   (try clear hb)
   (try clear hb2)
   (try clear hk)
   (try clear hi)
   refine hK.out _ _ ⟨cT aa 0, cT aa 1⟩ (fun hHeld => ?_)
   clear hK K
   refine mN 20 ?_
   refine pT 5 21 (bA 15 63) HT_.out ?_
   refine pT 6 22 (bA 15 127) HT_.out ?_
   refine pU 7 23 (bA 15 255) HT_.out ?_
   refine pU 8 24 (bA 15 511) HT_.out ?_
   refine pU 9 25 (bA 15 1023) HT_.out ?_
   refine pU 10 26 (bA 15 2047) HT_.out ?_
   refine pU 11 27 (bA 15 4095) HT_.out ?_
   refine pU 12 28 (bA 15 8191) HT_.out ?_
   refine pU 13 29 (bA 15 16383) HT_.out ?_
   refine pT 14 30 (bA 15 32767) HT_.out ?_
   refine done_ (done_of HT_.out (by kernel_rfl)) ?_
   try go_wp2
   go_meet
   case rel => exact ⟨_, (true), (by first | rfl | (simp; done) | (simp [*]; done)), H', ⟨by first | omega | exact Nat.le_refl _⟩, ⟨vT an.out⟩, ⟨vT aj.out⟩, ⟨vT ak.out⟩, ⟨rT au.out⟩, ⟨rT av.out⟩, ⟨bT aa.out⟩, ⟨bT ac.out⟩, ⟨eT HB.out⟩⟩
  ·rw [if_neg c24] at H
   have aY : ((aD == 0) != aC) = false := by simpa using c24
   (try (have a9 : decide ((aD == 0) = aC) = true := by simpa using c24))
   (try (have a_ : ((aD == 0) == aC) = true := by simpa using c24))
   clear c24
   (first | rw [aY] | (simp only [i64_w, i32_w]; rw [aY]) | skip)
   replace H := Option.bind_eq_some_iff.mp H
   obtain ⟨aL, bk, H⟩ := H
   replace H : ((graftwoodref15_Same.f k ae ag ax ay).bind fun aH => (graftwoodlaw15_ReachOf.j0 k aw az (aL != aH) ae ag)) = some r := H
   have A29 := Aside0.mk bk
   clear bk
   replace H := Option.bind_eq_some_iff.mp H
   obtain ⟨aH, bl, H⟩ := H
   replace H : (graftwoodlaw15_ReachOf.j0 k aw az (aL != aH) ae ag) = some r := H
   have A30 := Aside0.mk bl
   clear bl
   have H' := Aside0.mk H
   clear H
   try go_wp2
   have n0_ : Aside0 (Kd.V k36 36 ((w17.setCell ⟨ab, 0, none⟩ (.slice ao ae.length ap)).setCell ⟨ab, 1, none⟩ (.slice aq ag.length ar)) w.heap.size (fun k_ => some k_ ≠ (.slice ao ae.length ap : Value).ownBlock ∧ some k_ ≠ (.slice aq ag.length ar : Value).ownBlock ∧ k_ ≠ al ∧ k_ ≠ ab) (.slice a6 aw.length a4) aw) := ⟨by (with_reducible repeat (first | apply Kd.V_alloc | apply Kd.V_drewN | apply Kd.V_drew)); exact Kd.V_mono (Kd.V_far (p := ⟨ab, 1, none⟩) (Kd.V_far (p := ⟨ab, 0, none⟩) (Kd.V_mono an.out (fun k_ hk => (⟨hk, hk.2⟩ : _ ∧ k_ ≠ ab))) (fun _ hk => hk.2) (.slice ao ae.length ap)) (fun _ hk => hk.2) (.slice aq ag.length ar)) (fun _ hk => ⟨hk.1.1.1.2, ⟨hk.1.1.2, ⟨hk.1.1.1.1, hk.1.2⟩⟩⟩)⟩
   have n1_ : Aside0 (Kd.V k36 36 ((w17.setCell ⟨ab, 0, none⟩ (.slice ao ae.length ap)).setCell ⟨ab, 1, none⟩ (.slice aq ag.length ar)) w.heap.size (fun k_ => some k_ ≠ (.slice ao ae.length ap : Value).ownBlock ∧ some k_ ≠ (.slice aq ag.length ar : Value).ownBlock ∧ k_ ≠ al ∧ k_ ≠ ab) (.slice aF ax.length aG) ax) := ⟨by (with_reducible repeat (first | apply Kd.V_alloc | apply Kd.V_drewN | apply Kd.V_drew)); exact Kd.V_mono (Kd.V_far (p := ⟨ab, 1, none⟩) (Kd.V_far (p := ⟨ab, 0, none⟩) (Kd.V_mono aj.out (fun k_ hk => (⟨hk, hk.2⟩ : _ ∧ k_ ≠ ab))) (fun _ hk => hk.2) (.slice ao ae.length ap)) (fun _ hk => hk.2) (.slice aq ag.length ar)) (fun _ hk => ⟨hk.1.1.1.2, ⟨hk.1.1.2, ⟨hk.1.1.1.1, hk.1.2⟩⟩⟩)⟩
   have n2_ : Aside0 (Kd.V (Kd.int .i64) 3 ((w17.setCell ⟨ab, 0, none⟩ (.slice ao ae.length ap)).setCell ⟨ab, 1, none⟩ (.slice aq ag.length ar)) w.heap.size (fun k_ => some k_ ≠ (.slice ao ae.length ap : Value).ownBlock ∧ some k_ ≠ (.slice aq ag.length ar : Value).ownBlock ∧ k_ ≠ al ∧ k_ ≠ ab) (.slice aI ay.length aJ) ay) := ⟨by (with_reducible repeat (first | apply Kd.V_alloc | apply Kd.V_drewN | apply Kd.V_drew)); exact Kd.V_mono (Kd.V_far (p := ⟨ab, 1, none⟩) (Kd.V_far (p := ⟨ab, 0, none⟩) (Kd.V_mono ak.out (fun k_ hk => (⟨hk, hk.2⟩ : _ ∧ k_ ≠ ab))) (fun _ hk => hk.2) (.slice ao ae.length ap)) (fun _ hk => hk.2) (.slice aq ag.length ar)) (fun _ hk => ⟨hk.1.1.1.2, ⟨hk.1.1.2, ⟨hk.1.1.1.1, hk.1.2⟩⟩⟩)⟩
   have n3_ : Aside0 (Kd.R k36 36 ((w17.setCell ⟨ab, 0, none⟩ (.slice ao ae.length ap)).setCell ⟨ab, 1, none⟩ (.slice aq ag.length ar)) w.heap.size (fun _ => True) (.slice ao ae.length ap) ae) := ⟨by (with_reducible repeat (first | apply Kd.R_alloc | apply Kd.R_drewN | apply Kd.R_drew)); exact Kd.R_mono (Kd.R_far (p := ⟨ab, 1, none⟩) (Kd.R_far (p := ⟨ab, 0, none⟩) (Kd.R_types au.out ac.out (by decide)) (fun _ hk => hk.2) (.slice ao ae.length ap)) (fun _ hk => hk.2) (.slice aq ag.length ar)) (fun _ hk => trivial)⟩
   have n4_ : Aside0 (Kd.R (Kd.int .i64) 3 ((w17.setCell ⟨ab, 0, none⟩ (.slice ao ae.length ap)).setCell ⟨ab, 1, none⟩ (.slice aq ag.length ar)) w.heap.size (fun _ => True) (.slice aq ag.length ar) ag) := ⟨by (with_reducible repeat (first | apply Kd.R_alloc | apply Kd.R_drewN | apply Kd.R_drew)); exact Kd.R_mono (Kd.R_far (p := ⟨ab, 1, none⟩) (Kd.R_far (p := ⟨ab, 0, none⟩) (Kd.R_types av.out ac.out (by decide)) (fun _ hk => hk.2) (.slice ao ae.length ap)) (fun _ hk => hk.2) (.slice aq ag.length ar)) (fun _ hk => trivial)⟩
   have n5_ : Aside0 (((w17.setCell ⟨ab, 0, none⟩ (.slice ao ae.length ap)).setCell ⟨ab, 1, none⟩ (.slice aq ag.length ar)).heap[al]? = some (.cells #[.slice aF ax.length aG, .slice aI ay.length aJ] 25 (0, 0))) := ⟨by (with_reducible repeat (first | apply bn | apply bd | apply ba)); refine blk_far ?_ aB.out _; (with_reducible repeat (first | apply bn | apply bd | apply ba)); refine blk_far ?_ aB.out _; exact bT aa.out⟩
   have n6_ : Aside0 (((w17.setCell ⟨ab, 0, none⟩ (.slice ao ae.length ap)).setCell ⟨ab, 1, none⟩ (.slice aq ag.length ar)).heap[ab]? = some (.cells #[.slice ao ae.length ap, .slice aq ag.length ar] 25 (0, 0))) := ⟨by (with_reducible repeat (first | apply bn | apply bd | apply ba)); refine blk_put (cs := #[.slice ao ae.length ap, .slice none 0 0]) ?_ 1 _ rfl; (with_reducible repeat (first | apply bn | apply bd | apply ba)); refine blk_put (cs := #[.slice none 0 0, .slice none 0 0]) ?_ 0 _ rfl; exact bT ac.out⟩
   have n7_ : Aside0 (Below w.heap.size w ((w17.setCell ⟨ab, 0, none⟩ (.slice ao ae.length ap)).setCell ⟨ab, 1, none⟩ (.slice aq ag.length ar))) := ⟨by repeat (first | (with_reducible first | exact HB.out | apply pA | apply pN | apply pD | refine eU ?_ (by assumption)) | exact HB.out)⟩
   (try clear an)
   (try clear aj)
   (try clear ak)
   (try clear au)
   (try clear av)
   (try clear aa)
   (try clear ac)
   (try clear HB)
   generalize ((w17.setCell ⟨ab, 0, none⟩ (.slice ao ae.length ap)).setCell ⟨ab, 1, none⟩ (.slice aq ag.length ar)) = w31 at n0_ n1_ n2_ n3_ n4_ n5_ n6_ n7_ ⊢
   have an := n0_
   have aj := n1_
   have ak := n2_
   have au := n3_
   have av := n4_
   have aa := n5_
   have ac := n6_
   have HB := n7_
   clear n0_ n1_ n2_ n3_ n4_ n5_ n6_ n7_
   replace an := am (Kd.V_drew an.out)
   replace aj := am (Kd.V_drew aj.out)
   replace ak := am (Kd.V_drew ak.out)
   replace au := am (Kd.R_drew au.out)
   replace av := am (Kd.R_drew av.out)
   replace aa := am (blk_drew aa.out)
   replace ac := am (blk_drew ac.out)
   replace HB := am (below_drew1 HB.out)
   refine start_ (n := 15) (S := fun w' => w'.cell? ⟨al, 0, none⟩ = some (.slice aF ax.length aG) ∧ w'.cell? ⟨al, 1, none⟩ = some (.slice aI ay.length aJ) ∧ w'.cell? ⟨ab, 0, none⟩ = some (.slice ao ae.length ap) ∧ w'.cell? ⟨ab, 1, none⟩ = some (.slice aq ag.length ar)) (ds := []) (bA 15 0) (by kernel_rfl) rfl (by kernel_rfl) ⟨cT aa 0, cT aa 1, cT ac 0, cT ac 1⟩ (fun hHeld => ?_); refine with_tabW graftwoodlaw15_ReachOf.tab3 graftwoodlaw15_ReachOf.bits3 (fun HT_ HW_ => ?_)
   generalize w31.drew = w32 at an aj ak au av aa ac HB hHeld ⊢
   refine tT 0 16 (bA 15 1) HT_.out HW_.out hHeld ?_ (hy := by rintro w' ⟨s0, s1, s2, s3⟩; go_simp; with_reducible rfl)
   refine tT 3 19 (bA 15 9) HT_.out HW_.out hHeld ?_ (hy := by rintro w' ⟨s0, s1, s2, s3⟩; go_simp; with_reducible rfl)
   refine oT 1 (bA 15 11) HT_.out fun K hK => ?_
   refine gS Try.func26 #[.agg #[.slice aF ax.length aG, .slice aI ay.length aJ]] ?_
   with_reducible refine (reach_Check.calls k _ _ ax _ _ ay aD _ ?side1 ?side2 ?side3 ?side4 A22.out).mono ?_
   (case side1 => exact cW (Kd.V_reads' aj.out).2.2)
   (case side2 => exact (Kd.V_reads' aj.out).2.1)
   (case side3 => exact cW (Kd.V_reads' ak.out).2.2)
   (case side4 => exact (Kd.V_reads' ak.out).2.1)
   rintro e w33 ⟨rfl, hb⟩
   refine ⟨_, rfl, ?_⟩
   replace an := am (vB an.out hb)
   replace aj := am (vB aj.out hb)
   replace ak := am (vB ak.out hb)
   replace au := am (rB au.out hb)
   replace av := am (rB av.out hb)
   replace aa := am (bB aa.out hb)
   replace ac := am (bB ac.out hb)
   replace HB := am (sT HB.out hb)
   (try clear hb)
   (try clear hb2)
   (try clear hk)
   (try clear hi)
   refine hK.out _ _ ⟨cT aa 0, cT aa 1, cT ac 0, cT ac 1⟩ (fun hHeld => ?_)
   clear hK K
   refine mN 17 ?_
   refine pT 2 18 (bA 15 15) HT_.out ?_
   refine oT 4 (bA 15 31) HT_.out fun K hK => ?_
   refine gS Try.func12 #[.agg #[.slice aF ax.length aG, .slice aI ay.length aJ]] ?_
   with_reducible refine (graftwoodref15_May.calls k _ _ ax _ _ ay aC _ ?side1 ?side2 ?side3 ?side4 A23.out).mono ?_
   (case side1 => exact cW (Kd.V_reads' aj.out).2.2)
   (case side2 => exact (Kd.V_reads' aj.out).2.1)
   (case side3 => exact cW (Kd.V_reads' ak.out).2.2)
   (case side4 => exact (Kd.V_reads' ak.out).2.1)
   rintro e w34 ⟨rfl, hb⟩
   refine ⟨_, rfl, ?_⟩
   replace an := am (vB an.out hb)
   replace aj := am (vB aj.out hb)
   replace ak := am (vB ak.out hb)
   replace au := am (rB au.out hb)
   replace av := am (rB av.out hb)
   replace aa := am (bB aa.out hb)
   replace ac := am (bB ac.out hb)
   replace HB := am (sT HB.out hb)
   (try clear hb)
   (try clear hb2)
   (try clear hk)
   (try clear hi)
   refine hK.out _ _ ⟨cT aa 0, cT aa 1, cT ac 0, cT ac 1⟩ (fun hHeld => ?_)
   clear hK K
   refine mN 20 ?_
   refine pT 5 21 (bA 15 63) HT_.out ?_
   refine pT 6 22 (bA 15 127) HT_.out ?_
   refine tT 7 23 (bA 15 255) HT_.out HW_.out hHeld ?_ (hy := by rintro w' ⟨s0, s1, s2, s3⟩; go_simp; with_reducible rfl)
   refine tT 8 24 (bA 15 511) HT_.out HW_.out hHeld ?_ (hy := by rintro w' ⟨s0, s1, s2, s3⟩; go_simp; with_reducible rfl)
   refine tT 10 26 (bA 15 1535) HT_.out HW_.out hHeld ?_ (hy := by rintro w' ⟨s0, s1, s2, s3⟩; go_simp; with_reducible rfl)
   refine tT 11 27 (bA 15 3583) HT_.out HW_.out hHeld ?_ (hy := by rintro w' ⟨s0, s1, s2, s3⟩; go_simp; with_reducible rfl)
   refine oT 9 (bA 15 4095) HT_.out fun K hK => ?_
   refine gS Try.func27 #[.agg #[.slice ao ae.length ap, .slice aq ag.length ar], .agg #[.slice aF ax.length aG, .slice aI ay.length aJ]] ?_
   with_reducible refine (reach_Same.calls k _ _ ae _ _ ag _ _ ax _ _ ay aL _ ?side1 ?side2 ?side3 ?side4 ?side5 ?side6 ?side7 ?side8 A29.out).mono ?_
   (case side1 => exact cW (Kd.R_reads' au.out).2.2)
   (case side2 => exact (Kd.R_reads' au.out).2.1)
   (case side3 => exact cW (Kd.R_reads' av.out).2.2)
   (case side4 => exact (Kd.R_reads' av.out).2.1)
   (case side5 => exact cW (Kd.V_reads' aj.out).2.2)
   (case side6 => exact (Kd.V_reads' aj.out).2.1)
   (case side7 => exact cW (Kd.V_reads' ak.out).2.2)
   (case side8 => exact (Kd.V_reads' ak.out).2.1)
   rintro e w35 ⟨rfl, hb⟩
   refine ⟨_, rfl, ?_⟩
   replace an := am (vB an.out hb)
   replace aj := am (vB aj.out hb)
   replace ak := am (vB ak.out hb)
   replace au := am (rB au.out hb)
   replace av := am (rB av.out hb)
   replace aa := am (bB aa.out hb)
   replace ac := am (bB ac.out hb)
   replace HB := am (sT HB.out hb)
   (try clear hb)
   (try clear hb2)
   (try clear hk)
   (try clear hi)
   refine hK.out _ _ ⟨cT aa 0, cT aa 1, cT ac 0, cT ac 1⟩ (fun hHeld => ?_)
   clear hK K
   refine mN 25 ?_
   refine oT 12 (bA 15 8191) HT_.out fun K hK => ?_
   refine gS Try.func13 #[.agg #[.slice ao ae.length ap, .slice aq ag.length ar], .agg #[.slice aF ax.length aG, .slice aI ay.length aJ]] ?_
   with_reducible refine (graftwoodref15_Same.calls k _ _ ae _ _ ag _ _ ax _ _ ay aH _ ?side1 ?side2 ?side3 ?side4 ?side5 ?side6 ?side7 ?side8 A30.out).mono ?_
   (case side1 => exact cW (Kd.R_reads' au.out).2.2)
   (case side2 => exact (Kd.R_reads' au.out).2.1)
   (case side3 => exact cW (Kd.R_reads' av.out).2.2)
   (case side4 => exact (Kd.R_reads' av.out).2.1)
   (case side5 => exact cW (Kd.V_reads' aj.out).2.2)
   (case side6 => exact (Kd.V_reads' aj.out).2.1)
   (case side7 => exact cW (Kd.V_reads' ak.out).2.2)
   (case side8 => exact (Kd.V_reads' ak.out).2.1)
   rintro e w36 ⟨rfl, hb⟩
   refine ⟨_, rfl, ?_⟩
   replace an := am (vB an.out hb)
   replace aj := am (vB aj.out hb)
   replace ak := am (vB ak.out hb)
   replace au := am (rB au.out hb)
   replace av := am (rB av.out hb)
   replace aa := am (bB aa.out hb)
   replace ac := am (bB ac.out hb)
   replace HB := am (sT HB.out hb)
   (try clear hb)
   (try clear hb2)
   (try clear hk)
   (try clear hi)
   refine hK.out _ _ ⟨cT aa 0, cT aa 1, cT ac 0, cT ac 1⟩ (fun hHeld => ?_)
   clear hK K
   refine mN 28 ?_
   refine pT 13 29 (bA 15 16383) HT_.out ?_
   refine pT 14 30 (bA 15 32767) HT_.out ?_
   refine done_ (done_of HT_.out (by kernel_rfl)) ?_
   try go_wp2
   go_meet
   case rel => exact ⟨_, ((aL != aH)), (by first | rfl | (simp; done) | (simp [*]; done)), H', ⟨by first | omega | exact Nat.le_refl _⟩, ⟨vT an.out⟩, ⟨vT aj.out⟩, ⟨vT ak.out⟩, ⟨rT au.out⟩, ⟨rT av.out⟩, ⟨bT aa.out⟩, ⟨bT ac.out⟩, ⟨eT HB.out⟩⟩
 case rest =>
  clear HC6
  try clear c1
  try clear c2
  try clear p2
  try clear c12
  try clear c13
  try clear c24
  try clear aY
  try clear a9
  try clear a_
  try clear c26
  try clear c27
  obtain ⟨kq, a7, rfl, HA, HJ5, aA, ah, ai, af, ad, aa, ac, HB⟩ := hcut
  cases kq with
  | zero => exact absurd HA.out (by simp [graftwoodlaw15_ReachOf.j0])
  | succ kj5 =>
   have H := HA.out
   clear HA
   simp only [graftwoodlaw15_ReachOf.j0] at H
   by_cases c37 : a7 = true
   ·subst c37
    have H1 : (some false) = some r := by rw [if_pos rfl] at H; exact H
    clear H
    have H := H1
    clear H1
    exact absurd ((Option.some.inj H).trans hR_) (by decide)
   ·replace c37 := Bool.eq_false_iff.mpr c37
    subst c37
    have H1 : ((graftwoodref11_May.f kj5 aw).bind fun a8 => (if a8 = true then ((graftwoodref15_Live.f kj5 aw).bind fun aO => ((graftwoodref15_Same.f kj5 ae ag aw aO).bind fun aP => (if aP = true then (if az = 0 then ((reach_Check.f kj5 ae ag).bind fun aE => (if aE = 0 then ((graftwoodlaw15_awake.f kj5).bind fun aK => (some aK)) else (some false))) else (some false)) else (some false)))) else ((graftwoodref15_Same.f kj5 ae ag ([] : List (S36)) ([] : List Int)).bind fun aU => (if aU = true then (if az = 1 then ((graftwoodlaw15_awake.f kj5).bind fun aM => (some aM)) else (some false)) else (some false))))) = some r := by rw [if_neg (show ¬ (false = true) by decide)] at H; exact H
    clear H
    have H := H1
    clear H1
    replace H := Option.bind_eq_some_iff.mp H
    obtain ⟨a8, bm, H⟩ := H
    replace H : (if a8 = true then ((graftwoodref15_Live.f kj5 aw).bind fun aO => ((graftwoodref15_Same.f kj5 ae ag aw aO).bind fun aP => (if aP = true then (if az = 0 then ((reach_Check.f kj5 ae ag).bind fun aE => (if aE = 0 then ((graftwoodlaw15_awake.f kj5).bind fun aK => (some aK)) else (some false))) else (some false)) else (some false)))) else ((graftwoodref15_Same.f kj5 ae ag ([] : List (S36)) ([] : List Int)).bind fun aU => (if aU = true then (if az = 1 then ((graftwoodlaw15_awake.f kj5).bind fun aM => (some aM)) else (some false)) else (some false)))) = some r := H
    have A38 := Aside0.mk bm
    clear bm
    by_cases c39 : a8 = true
    ·subst c39
     have H1 : ((graftwoodref15_Live.f kj5 aw).bind fun aO => ((graftwoodref15_Same.f kj5 ae ag aw aO).bind fun aP => (if aP = true then (if az = 0 then ((reach_Check.f kj5 ae ag).bind fun aE => (if aE = 0 then ((graftwoodlaw15_awake.f kj5).bind fun aK => (some aK)) else (some false))) else (some false)) else (some false)))) = some r := by rw [if_pos rfl] at H; exact H
     clear H
     have H := H1
     clear H1
     replace H := Option.bind_eq_some_iff.mp H
     obtain ⟨aO, bo, H⟩ := H
     replace H : ((graftwoodref15_Same.f kj5 ae ag aw aO).bind fun aP => (if aP = true then (if az = 0 then ((reach_Check.f kj5 ae ag).bind fun aE => (if aE = 0 then ((graftwoodlaw15_awake.f kj5).bind fun aK => (some aK)) else (some false))) else (some false)) else (some false))) = some r := H
     have A40 := Aside0.mk bo
     clear bo
     replace H := Option.bind_eq_some_iff.mp H
     obtain ⟨aP, bp, H⟩ := H
     replace H : (if aP = true then (if az = 0 then ((reach_Check.f kj5 ae ag).bind fun aE => (if aE = 0 then ((graftwoodlaw15_awake.f kj5).bind fun aK => (some aK)) else (some false))) else (some false)) else (some false)) = some r := H
     have A41 := Aside0.mk bp
     clear bp
     by_cases c42 : aP = true
     ·subst c42
      have H1 : (if az = 0 then ((reach_Check.f kj5 ae ag).bind fun aE => (if aE = 0 then ((graftwoodlaw15_awake.f kj5).bind fun aK => (some aK)) else (some false))) else (some false)) = some r := by rw [if_pos rfl] at H; exact H
      clear H
      have H := H1
      clear H1
      by_cases c43 : az = 0
      ·rw [if_pos c43] at H
       have bq : (az == 0) = true := beq_iff_eq.mpr c43
       have br : (az != 0) = false := bne_eq_false_iff_eq.mpr c43
       clear c43
       replace H := Option.bind_eq_some_iff.mp H
       obtain ⟨aE, bs, H⟩ := H
       replace H : (if aE = 0 then ((graftwoodlaw15_awake.f kj5).bind fun aK => (some aK)) else (some false)) = some r := H
       have A44 := Aside0.mk bs
       clear bs
       by_cases c45 : aE = 0
       ·rw [if_pos c45] at H
        have bt : (aE == 0) = true := beq_iff_eq.mpr c45
        have bu : (aE != 0) = false := bne_eq_false_iff_eq.mpr c45
        clear c45
        replace H := Option.bind_eq_some_iff.mp H
        obtain ⟨aK, bv, H⟩ := H
        replace H : (some aK) = some r := H
        have A46 := Aside0.mk bv
        clear bv
        obtain rfl := Option.some.inj H
        try go_wp2_with (first | ((with_reducible refine gate_callee (f := 28) rfl ?_); refine gL (some 32) Try.func28 #[.slice a6 aw.length a4] ?_; (with_reducible refine (graftwoodref11_May.calls kj5 _ _ aw true _ ?side1 ?side2 A38.out).mono ?_); (case side1 => exact cW (Kd.V_reads' aA.out).2.2); (case side2 => exact (Kd.V_reads' aA.out).2.1); rintro e w47 ⟨rfl, hb⟩; refine ⟨_, rfl, ?_⟩; replace aA := am (vB aA.out hb); replace ah := am (vB ah.out hb); replace ai := am (vB ai.out hb); replace af := am (rB af.out hb); replace ad := am (rB ad.out hb); replace aa := am (bB aa.out hb); replace ac := am (bB ac.out hb); replace HB := am (sT HB.out hb); (try clear hb); (try clear hb2); (try clear hk); (try clear hi)))
        replace aA := am (Kd.V_drew aA.out)
        replace ah := am (Kd.V_drew ah.out)
        replace ai := am (Kd.V_drew ai.out)
        replace af := am (Kd.R_drew af.out)
        replace ad := am (Kd.R_drew ad.out)
        replace aa := am (blk_drew aa.out)
        replace ac := am (blk_drew ac.out)
        replace HB := am (below_drew1 HB.out)
        refine start_ (n := 19) (S := fun w' => w'.cell? ⟨ab, 0, none⟩ = some (.slice ao ae.length ap) ∧ w'.cell? ⟨ab, 1, none⟩ = some (.slice aq ag.length ar)) (ds := []) (bA 19 0) (by kernel_rfl) rfl (by kernel_rfl) ⟨cT ac 0, cT ac 1⟩ (fun hHeld => ?_); refine with_tabW graftwoodlaw15_ReachOf.tab7 graftwoodlaw15_ReachOf.bits7 (fun HT_ HW_ => ?_)
        generalize w47.drew = w48 at aA ah ai af ad aa ac HB hHeld ⊢
        refine pT 1 45 (bA 19 2) HT_.out ?_
        refine pT 2 46 (bA 19 6) HT_.out ?_
        refine tT 0 44 (bA 19 7) HT_.out HW_.out hHeld ?_ (hy := by rintro w' ⟨s0, s1⟩; go_simp; with_reducible rfl)
        refine oT 3 (bA 19 15) HT_.out fun K hK => ?_
        refine gS Try.func17 #[.slice a6 aw.length a4] ?_
        with_reducible refine (graftwoodref15_Live.calls kj5 _ _ aw aO _ ?side1 ?side2 A40.out).mono ?_
        (case side1 => exact cW (Kd.V_reads' aA.out).2.2)
        (case side2 => exact (Kd.V_reads' aA.out).2.1)
        rintro e w49 ⟨b_, rfl, ho0, hb⟩
        refine ⟨_, rfl, ?_⟩
        replace aA := am (Kd.V_elder' (vT aA.out) (Kd.R_base ho0) hb)
        replace ah := am (Kd.V_elder' (vT ah.out) (Kd.R_base ho0) hb)
        replace ai := am (Kd.V_elder' (vT ai.out) (Kd.R_base ho0) hb)
        replace af := am (rB af.out hb)
        have aN := am (Kd.R_lower (Kd.R_new' ho0 (Kd.R_lt (rT ad.out))) (below_size (eT HB.out)))
        replace aa := am (bB aa.out hb)
        replace ac := am (bB ac.out hb)
        replace ad := am (Kd.R_elder' (rT ad.out) (Kd.R_base ho0) hb)
        replace HB := am (sT HB.out hb)
        (try clear hb)
        (try clear hb2)
        (try clear hk)
        (try clear hi)
        (try clear ho0)
        obtain ⟨bP, bQ, bw⟩ := Kd.R_slice aN.out
        (first | subst bw | (injection bw with f1_ f2_ f3_; have f4_ := f1_.symm; have f5_ := f3_.symm; clear f1_ f2_ f3_; subst f4_; subst f5_))
        refine hK.out _ _ ⟨cT ac 0, cT ac 1⟩ (fun hHeld => ?_)
        clear hK K
        refine mN 47 ?_
        refine pT 4 48 (bA 19 31) HT_.out ?_
        refine oT 5 (bA 19 63) HT_.out fun K hK => ?_
        refine gS Try.func13 #[.agg #[.slice ao ae.length ap, .slice aq ag.length ar], .agg #[.slice a6 aw.length a4, .slice bP aO.length bQ]] ?_
        with_reducible refine (graftwoodref15_Same.calls kj5 _ _ ae _ _ ag _ _ aw _ _ aO true _ ?side1 ?side2 ?side3 ?side4 ?side5 ?side6 ?side7 ?side8 A41.out).mono ?_
        (case side1 => exact cW (Kd.R_reads' af.out).2.2)
        (case side2 => exact (Kd.R_reads' af.out).2.1)
        (case side3 => exact cW (Kd.R_reads' ad.out).2.2)
        (case side4 => exact (Kd.R_reads' ad.out).2.1)
        (case side5 => exact cW (Kd.V_reads' aA.out).2.2)
        (case side6 => exact (Kd.V_reads' aA.out).2.1)
        (case side7 => exact cW (Kd.R_reads' aN.out).2.2)
        (case side8 => exact (Kd.R_reads' aN.out).2.1)
        rintro e w51 ⟨rfl, hb⟩
        refine ⟨_, rfl, ?_⟩
        replace aA := am (vB aA.out hb)
        replace ah := am (vB ah.out hb)
        replace ai := am (vB ai.out hb)
        replace af := am (rB af.out hb)
        replace ad := am (rB ad.out hb)
        replace aN := am (rB aN.out hb)
        replace aa := am (bB aa.out hb)
        replace ac := am (bB ac.out hb)
        replace HB := am (sT HB.out hb)
        (try clear hb)
        (try clear hb2)
        (try clear hk)
        (try clear hi)
        refine hK.out _ _ ⟨cT ac 0, cT ac 1⟩ (fun hHeld => ?_)
        clear hK K
        refine mN 49 ?_
        refine pT 6 50 (bA 19 127) HT_.out ?_
        refine pT 7 51 (bA 19 255) HT_.out ?_
        refine pT 8 52 (bA 19 511) HT_.out ?_
        refine pT 9 53 (bA 19 1023) HT_.out ?_
        refine pT 10 54 (bA 19 2047) HT_.out ?_
        refine tT 11 55 (bA 19 4095) HT_.out HW_.out hHeld ?_ (hy := by rintro w' ⟨s0, s1⟩; go_simp; with_reducible rfl)
        refine oT 12 (bA 19 8191) HT_.out fun K hK => ?_
        refine gS Try.func26 #[.agg #[.slice ao ae.length ap, .slice aq ag.length ar]] ?_
        with_reducible refine (reach_Check.calls kj5 _ _ ae _ _ ag aE _ ?side1 ?side2 ?side3 ?side4 A44.out).mono ?_
        (case side1 => exact cW (Kd.R_reads' af.out).2.2)
        (case side2 => exact (Kd.R_reads' af.out).2.1)
        (case side3 => exact cW (Kd.R_reads' ad.out).2.2)
        (case side4 => exact (Kd.R_reads' ad.out).2.1)
        rintro e w52 ⟨rfl, hb⟩
        refine ⟨_, rfl, ?_⟩
        replace aA := am (vB aA.out hb)
        replace ah := am (vB ah.out hb)
        replace ai := am (vB ai.out hb)
        replace af := am (rB af.out hb)
        replace ad := am (rB ad.out hb)
        replace aN := am (rB aN.out hb)
        replace aa := am (bB aa.out hb)
        replace ac := am (bB ac.out hb)
        replace HB := am (sT HB.out hb)
        (try clear hb)
        (try clear hb2)
        (try clear hk)
        (try clear hi)
        refine hK.out _ _ ⟨cT ac 0, cT ac 1⟩ (fun hHeld => ?_)
        clear hK K
        refine mN 56 ?_
        refine pT 13 57 (bA 19 16383) HT_.out ?_
        refine pT 14 58 (bA 19 32767) HT_.out ?_
        refine pT 15 59 (bA 19 65535) HT_.out ?_
        refine oT 16 (bA 19 131071) HT_.out fun K hK => ?_
        refine gS Try.func14 #[] ?_
        with_reducible refine (graftwoodlaw15_awake.calls kj5  aK _ A46.out (by first | exact hR_ | assumption)).mono ?_
        rintro e w53 ⟨rfl, hb⟩
        refine ⟨_, rfl, ?_⟩
        replace aA := am (vB aA.out hb)
        replace ah := am (vB ah.out hb)
        replace ai := am (vB ai.out hb)
        replace af := am (rB af.out hb)
        replace ad := am (rB ad.out hb)
        replace aN := am (rB aN.out hb)
        replace aa := am (bB aa.out hb)
        replace ac := am (bB ac.out hb)
        replace HB := am (sT HB.out hb)
        (try clear hb)
        (try clear hb2)
        (try clear hk)
        (try clear hi)
        refine hK.out _ _ ⟨cT ac 0, cT ac 1⟩ (fun hHeld => ?_)
        clear hK K
        refine mN 60 ?_
        refine pT 17 61 (bA 19 262143) HT_.out ?_
        refine pT 18 4 (bA 19 524287) HT_.out ?_
        refine done_ (done_of HT_.out (by kernel_rfl)) ?_
        try go_wp2
        go_ret
        exact ⟨by first | rfl | (simp [errW_none, errW_some] <;> rfl) | (simp [*, errW_none, errW_some] <;> rfl), eT HB.out⟩
       ·rw [if_neg c45] at H
        have bt : (aE == 0) = false := beq_eq_false_iff_ne.mpr c45
        have bu : (aE != 0) = true := bne_iff_ne.mpr c45
        exact absurd ((Option.some.inj H).trans hR_) (by decide)
      ·rw [if_neg c43] at H
       have bq : (az == 0) = false := beq_eq_false_iff_ne.mpr c43
       have br : (az != 0) = true := bne_iff_ne.mpr c43
       exact absurd ((Option.some.inj H).trans hR_) (by decide)
     ·replace c42 := Bool.eq_false_iff.mpr c42
      subst c42
      have H1 : (some false) = some r := by rw [if_neg (show ¬ (false = true) by decide)] at H; exact H
      clear H
      have H := H1
      clear H1
      exact absurd ((Option.some.inj H).trans hR_) (by decide)
    ·replace c39 := Bool.eq_false_iff.mpr c39
     subst c39
     have H1 : ((graftwoodref15_Same.f kj5 ae ag ([] : List (S36)) ([] : List Int)).bind fun aU => (if aU = true then (if az = 1 then ((graftwoodlaw15_awake.f kj5).bind fun aM => (some aM)) else (some false)) else (some false))) = some r := by rw [if_neg (show ¬ (false = true) by decide)] at H; exact H
     clear H
     have H := H1
     clear H1
     replace H := Option.bind_eq_some_iff.mp H
     obtain ⟨aU, bx, H⟩ := H
     replace H : (if aU = true then (if az = 1 then ((graftwoodlaw15_awake.f kj5).bind fun aM => (some aM)) else (some false)) else (some false)) = some r := H
     have A70 := Aside0.mk bx
     clear bx
     by_cases c71 : aU = true
     ·subst c71
      have H1 : (if az = 1 then ((graftwoodlaw15_awake.f kj5).bind fun aM => (some aM)) else (some false)) = some r := by rw [if_pos rfl] at H; exact H
      clear H
      have H := H1
      clear H1
      by_cases c72 : az = 1
      ·rw [if_pos c72] at H
       have bz : (az == 1) = true := beq_iff_eq.mpr c72
       have bC : (az != 1) = false := bne_eq_false_iff_eq.mpr c72
       clear c72
       replace H := Option.bind_eq_some_iff.mp H
       obtain ⟨aM, bD, H⟩ := H
       replace H : (some aM) = some r := H
       have A73 := Aside0.mk bD
       clear bD
       obtain rfl := Option.some.inj H
       go_wp2_with (first | ((with_reducible refine gate_callee (f := 28) rfl ?_); refine gL (some 32) Try.func28 #[.slice a6 aw.length a4] ?_; (with_reducible refine (graftwoodref11_May.calls kj5 _ _ aw false _ ?side1 ?side2 A38.out).mono ?_); (case side1 => exact cW (Kd.V_reads' aA.out).2.2); (case side2 => exact (Kd.V_reads' aA.out).2.1); rintro e w74 ⟨rfl, hb⟩; refine ⟨_, rfl, ?_⟩; replace aA := am (vB aA.out hb); replace ah := am (vB ah.out hb); replace ai := am (vB ai.out hb); replace af := am (rB af.out hb); replace ad := am (rB ad.out hb); replace aa := am (bB aa.out hb); replace ac := am (bB ac.out hb); replace HB := am (sT HB.out hb); (try clear hb); (try clear hb2); (try clear hk); (try clear hi); have b1 := aX.out; have b2 := aB.out; have bI : w74.cell? ⟨ab, 0, none⟩ = some (.slice ao ae.length ap) := cT ac 0; have bJ : w74.cell? ⟨ab, 1, none⟩ = some (.slice aq ag.length ar) := cT ac 1; have bK := blk_frozen ac.out 0; have bL := blk_frozen ac.out 1) | ((with_reducible refine gate_callee (f := 13) rfl ?_); refine gL (some 36) Try.func13 #[.agg #[.slice ao ae.length ap, .slice aq ag.length ar], .agg #[.slice none 0 0, .slice none 0 0]] ?_; (refine (graftwoodref15_Same.calls kj5 _ _ ae _ _ ag _ _ ([] : List (S36)) _ _ ([] : List Int) true _ ?side1 ?side2 ?side3 ?side4 ?side5 ?side6 ?side7 ?side8 A70.out).mono ?_); (case side1 => exact cW (Kd.R_reads' af.out).2.2); (case side2 => exact (Kd.R_reads' af.out).2.1); (case side3 => exact cW (Kd.R_reads' ad.out).2.2); (case side4 => exact (Kd.R_reads' ad.out).2.1); (case side5 => exact Kd.C_nil _ _); (case side6 => exact Nat.le_refl _); (case side7 => exact Kd.C_nil _ _); (case side8 => exact Nat.le_refl _); rintro e w77 ⟨rfl, hb⟩; refine ⟨_, rfl, ?_⟩; replace aA := am (vB aA.out hb); replace ah := am (vB ah.out hb); replace ai := am (vB ai.out hb); replace af := am (rB af.out hb); replace ad := am (rB ad.out hb); replace aa := am (bB aa.out hb); replace ac := am (bB ac.out hb); replace HB := am (sT HB.out hb); (try clear hb); (try clear hb2); (try clear hk); (try clear hi)) | (go_at_call 14; (with_reducible refine (graftwoodlaw15_awake.calls kj5  aM _ A73.out (by first | exact hR_ | assumption)).mono ?_); rintro e w78 ⟨rfl, hb⟩; replace aA := am (vB aA.out hb); replace ah := am (vB ah.out hb); replace ai := am (vB ai.out hb); replace af := am (rB af.out hb); replace ad := am (rB ad.out hb); replace aa := am (bB aa.out hb); replace ac := am (bB ac.out hb); replace HB := am (sT HB.out hb); (try clear hb); (try clear hb2); (try clear hk); (try clear hi)))
       go_ret
       exact ⟨by first | rfl | (simp [errW_none, errW_some] <;> rfl) | (simp [*, errW_none, errW_some] <;> rfl), eT HB.out⟩
      ·rw [if_neg c72] at H
       have bz : (az == 1) = false := beq_eq_false_iff_ne.mpr c72
       have bC : (az != 1) = true := bne_iff_ne.mpr c72
       exact absurd ((Option.some.inj H).trans hR_) (by decide)
     ·replace c71 := Bool.eq_false_iff.mpr c71
      subst c71
      have H1 : (some false) = some r := by rw [if_neg (show ¬ (false = true) by decide)] at H; exact H
      clear H
      have H := H1
      clear H1
      exact absurd ((Option.some.inj H).trans hR_) (by decide)
end Go.Proofs.Ytpiamehededilaa.P
