-- Written by this project's own program (wip/tools/hp.py), driving the kit's print; hand texts among it. Not trusted: Lean checks it.
-- half the indentation
import Derived.Test.YtomjppafgalaoaaDoorThin
import Derived.Test.YtomjppafgalaoaaDoorP0
import Derived.Test.YtomjppafgalaoaaDoorP3
import Derived.Test.YtomjppafgalaoaaDoorP23
import Derived.Test.YtomjppafgalaoaaDoorP24
namespace Go.Proofs.YtomjppafgalaoaaDoor.P
open Go.RowKit Go.Proofs.YtomjppafgalaoaaDoorW.PrintWords Go.Proofs.YtomjppafgalaoaaDoorW.PrintLast Go.Proofs.YtomjppafgalaoaaDoorW.PrintMore
attribute [local go_sem] max2_int min2_int max_two min_two max_three min_three max_four min_four   -- for this text's walks alone
set_option linter.unusedVariables false
set_option linter.unusedSimpArgs false

/-! ### graftwoodlaw12_StoreMany: function 4 -/
mutual
def graftwoodlaw12_StoreMany.j0 : Nat → Int → List (S27) → List ByteArray → Option (Bool)
 | 0, _, _, _ => none
 | k + 1, x11, aA, aD => if (aA.length : Int) = x11 then (graftwoodlaw12_StoreMany.j1 k ((aD.length : Int) != x11) aA aD) else (graftwoodlaw12_StoreMany.j1 k true aA aD)
def graftwoodlaw12_StoreMany.j1 : Nat → Bool → List (S27) → List ByteArray → Option (Bool)
 | 0, _, _, _ => none
 | k + 1, x57, aA, aD => if x57 = true then (some false) else (graftwoodlaw12_StoreMany.l0 k 0 aA aD)
def graftwoodlaw12_StoreMany.l0 : Nat → Int → List (S27) → List ByteArray → Option (Bool)
 | 0, _, _, _ => none
 | k + 1, x12, aA, aD => if x12 < (aA.length : Int) then (if 0 ≤ x12 then ((store_Get.f k aA aD ((rd_T27 aA x12).f0) ((rd_T27 aA x12).f1)).bind fun bt368 => (if x12 < (aD.length : Int) then (if bt368.1.toList = (rdOf ByteArray.empty aD x12).toList then (if bt368.2 = 0 then (graftwoodlaw12_StoreMany.l0 k (wrap64 (x12 + 1)) aA aD) else (some false)) else (some false)) else (none))) else (none)) else ((graftwoodlaw12_awake.f k).bind fun bV => (some bV))
end
def graftwoodlaw12_StoreMany.f (k : Nat) (l0_0 : List (S27)) (l0_1 : List ByteArray) (a1_0 : ByteArray) (a1_1 : ByteArray) (a2 : ByteArray) : Option (Bool) := (graftwoodlaw12_Few.f k l0_0 l0_1).bind fun bt348 => ((graftwoodlaw05_One.f a1_0 a1_1).bind fun bt354 => ((store_Get.f k bt348.1 bt348.2 bt354.1 bt354.2).bind fun bt356 => ((store_Put.f k bt348.1 bt348.2 bt354.1 bt354.2 a2).bind fun bt358 => (if bt358.2.2 = 0 then (if bt356.2 = 2 then (graftwoodlaw12_StoreMany.j0 k (wrap64 ((bt348.1.length : Int) + 1)) bt358.1 bt358.2.1) else (graftwoodlaw12_StoreMany.j0 k (bt348.1.length : Int) bt358.1 bt358.2.1)) else (if bt356.2 = 1 then ((graftwoodlaw12_awake.f k).bind fun aR => (some aR)) else (some false))))))
theorem graftwoodlaw12_StoreMany.mono_l : ∀ k, (∀ y0 y1 y2, LeO (graftwoodlaw12_StoreMany.j0 k y0 y1 y2) (graftwoodlaw12_StoreMany.j0 (k + 1) y0 y1 y2)) ∧ (∀ y0 y1 y2, LeO (graftwoodlaw12_StoreMany.j1 k y0 y1 y2) (graftwoodlaw12_StoreMany.j1 (k + 1) y0 y1 y2)) ∧ (∀ y0 y1 y2, LeO (graftwoodlaw12_StoreMany.l0 k y0 y1 y2) (graftwoodlaw12_StoreMany.l0 (k + 1) y0 y1 y2))
 | 0 => ⟨fun _ _ _ r h => by simp [graftwoodlaw12_StoreMany.j0] at h, fun _ _ _ r h => by simp [graftwoodlaw12_StoreMany.j1] at h, fun _ _ _ r h => by simp [graftwoodlaw12_StoreMany.l0] at h⟩
 | k + 1 => by
  obtain ⟨ih0, ih1, ih2⟩ := graftwoodlaw12_StoreMany.mono_l k
  refine ⟨?_, ?_, ?_⟩
  ·intro y0 y1 y2
   unfold graftwoodlaw12_StoreMany.j0
   repeat' first
   | (with_reducible exact ih0 _ _ _)
   | (with_reducible exact ih1 _ _ _)
   | (with_reducible exact ih2 _ _ _)
   | (with_reducible exact graftwoodlaw12_Few.mono _ _ _)
   | (with_reducible exact graftwoodlaw12_awake.mono _)
   | (with_reducible exact store_Get.mono _ _ _ _ _)
   | (with_reducible exact store_Put.mono _ _ _ _ _ _)
   | (with_reducible exact LeO.refl _)
   | (with_reducible exact LeO.none _)
   | (with_reducible refine LeO.ite ?_ ?_)
   | (with_reducible refine LeO.bind ?_ (fun _ => ?_))
   | exact ih0 _ _ _
   | exact ih1 _ _ _
   | exact ih2 _ _ _
   | exact graftwoodlaw12_Few.mono _ _ _
   | exact graftwoodlaw12_awake.mono _
   | exact store_Get.mono _ _ _ _ _
   | exact store_Put.mono _ _ _ _ _ _
   | exact LeO.none _
   | refine LeO.ite ?_ ?_
   | refine LeO.bind ?_ (fun _ => ?_)
  ·intro y0 y1 y2
   unfold graftwoodlaw12_StoreMany.j1
   repeat' first
   | (with_reducible exact ih0 _ _ _)
   | (with_reducible exact ih1 _ _ _)
   | (with_reducible exact ih2 _ _ _)
   | (with_reducible exact graftwoodlaw12_Few.mono _ _ _)
   | (with_reducible exact graftwoodlaw12_awake.mono _)
   | (with_reducible exact store_Get.mono _ _ _ _ _)
   | (with_reducible exact store_Put.mono _ _ _ _ _ _)
   | (with_reducible exact LeO.refl _)
   | (with_reducible exact LeO.none _)
   | (with_reducible refine LeO.ite ?_ ?_)
   | (with_reducible refine LeO.bind ?_ (fun _ => ?_))
   | exact ih0 _ _ _
   | exact ih1 _ _ _
   | exact ih2 _ _ _
   | exact graftwoodlaw12_Few.mono _ _ _
   | exact graftwoodlaw12_awake.mono _
   | exact store_Get.mono _ _ _ _ _
   | exact store_Put.mono _ _ _ _ _ _
   | exact LeO.none _
   | refine LeO.ite ?_ ?_
   | refine LeO.bind ?_ (fun _ => ?_)
  ·intro y0 y1 y2
   unfold graftwoodlaw12_StoreMany.l0
   repeat' first
   | (with_reducible exact ih0 _ _ _)
   | (with_reducible exact ih1 _ _ _)
   | (with_reducible exact ih2 _ _ _)
   | (with_reducible exact graftwoodlaw12_Few.mono _ _ _)
   | (with_reducible exact graftwoodlaw12_awake.mono _)
   | (with_reducible exact store_Get.mono _ _ _ _ _)
   | (with_reducible exact store_Put.mono _ _ _ _ _ _)
   | (with_reducible exact LeO.refl _)
   | (with_reducible exact LeO.none _)
   | (with_reducible refine LeO.ite ?_ ?_)
   | (with_reducible refine LeO.bind ?_ (fun _ => ?_))
   | exact ih0 _ _ _
   | exact ih1 _ _ _
   | exact ih2 _ _ _
   | exact graftwoodlaw12_Few.mono _ _ _
   | exact graftwoodlaw12_awake.mono _
   | exact store_Get.mono _ _ _ _ _
   | exact store_Put.mono _ _ _ _ _ _
   | exact LeO.none _
   | refine LeO.ite ?_ ?_
   | refine LeO.bind ?_ (fun _ => ?_)
theorem graftwoodlaw12_StoreMany.mono : ∀ a0 a1 a2 a3 a4 k, LeO (graftwoodlaw12_StoreMany.f k a0 a1 a2 a3 a4) (graftwoodlaw12_StoreMany.f (k + 1) a0 a1 a2 a3 a4) := by
 intro a0 a1 a2 a3 a4 k
 obtain ⟨ih0, ih1, ih2⟩ := graftwoodlaw12_StoreMany.mono_l k
 unfold graftwoodlaw12_StoreMany.f
 repeat' first
   | (with_reducible exact ih0 _ _ _)
   | (with_reducible exact ih1 _ _ _)
   | (with_reducible exact ih2 _ _ _)
   | (with_reducible exact graftwoodlaw12_Few.mono _ _ _)
   | (with_reducible exact graftwoodlaw12_awake.mono _)
   | (with_reducible exact store_Get.mono _ _ _ _ _)
   | (with_reducible exact store_Put.mono _ _ _ _ _ _)
   | (with_reducible exact LeO.refl _)
   | (with_reducible exact LeO.none _)
   | (with_reducible refine LeO.ite ?_ ?_)
   | (with_reducible refine LeO.bind ?_ (fun _ => ?_))
   | exact ih0 _ _ _
   | exact ih1 _ _ _
   | exact ih2 _ _ _
   | exact graftwoodlaw12_Few.mono _ _ _
   | exact graftwoodlaw12_awake.mono _
   | exact store_Get.mono _ _ _ _ _
   | exact store_Put.mono _ _ _ _ _ _
   | exact LeO.none _
   | refine LeO.ite ?_ ?_
   | refine LeO.bind ?_ (fun _ => ?_)
def graftwoodlaw12_StoreMany.T14 : Bool × List (List Nat × List Nat) := (true, [([], []), ([], []), ([1], [1]), ([], []), ([2, 3], [2, 3]), ([4], [4]), ([0, 5], [0, 5]), ([6], [6]), ([7], [7]), ([7], [7]), ([8, 6, 0, 1, 2, 3, 4, 5, 6, 7, 8], [8]), ([9, 10, 0, 1, 2, 3, 4, 5, 6, 7, 8, 9, 10], [9])])
def graftwoodlaw12_StoreMany.B14 : List Nat := [0, 0, 2, 0, 14, 30, 63, 127, 255, 255, 511, 2047]
theorem graftwoodlaw12_StoreMany.tab14 : rtab .any (opsOf Tryd.f4 14) = graftwoodlaw12_StoreMany.T14 := by kernel_rfl
theorem graftwoodlaw12_StoreMany.bits14 : waitsOk graftwoodlaw12_StoreMany.T14.2 graftwoodlaw12_StoreMany.B14 = true := by kernel_rfl
set_option maxHeartbeats 8000000 in
set_option maxRecDepth 100000 in
theorem graftwoodlaw12_StoreMany.calls (k : Nat) (aU : Option Addr) (aV : Nat) (l0_0 : List (S27)) (aO : Option Addr) (aP : Nat) (l0_1 : List ByteArray) (a1_0 : ByteArray) (a1_1 : ByteArray) (a2 : ByteArray) (r : Bool) (w : World) (hr0_0 : Kd.C k27 w aU l0_0.length l0_0) (hc0_0 : l0_0.length ≤ aV) (hr0_1 : Kd.C Kd.string w aO l0_1.length l0_1) (hc0_1 : l0_1.length ≤ aP) (h : graftwoodlaw12_StoreMany.f k l0_0 l0_1 a1_0 a1_1 a2 = some r) (hR_ : r = true) :
  Calls Tryd.prog 4 #[.agg #[.slice aU l0_0.length aV, .slice aO l0_1.length aP], .agg #[.string a1_0, .string a1_1], .string a2] w fun e w' => e = .returned (.bool r) ∧ Below w.heap.size w w' := by
 have hu25 := Tryd.underlying25
 have hu27 := Tryd.underlying27
 have bZ := Aside0.mk hr0_0
 have b0 := Aside0.mk hc0_0
 clear hr0_0 hc0_0
 have b1 := Aside0.mk hr0_1
 have b2 := Aside0.mk hc0_1
 clear hr0_1 hc0_1
 have HB := am (Below.refl w.heap.size w)
 have H : ((graftwoodlaw12_Few.f k l0_0 l0_1).bind fun bt348 => ((graftwoodlaw05_One.f a1_0 a1_1).bind fun bt354 => ((store_Get.f k bt348.1 bt348.2 bt354.1 bt354.2).bind fun bt356 => ((store_Put.f k bt348.1 bt348.2 bt354.1 bt354.2 a2).bind fun bt358 => (if bt358.2.2 = 0 then (if bt356.2 = 2 then (graftwoodlaw12_StoreMany.j0 k (wrap64 ((bt348.1.length : Int) + 1)) bt358.1 bt358.2.1) else (graftwoodlaw12_StoreMany.j0 k (bt348.1.length : Int) bt358.1 bt358.2.1)) else (if bt356.2 = 1 then ((graftwoodlaw12_awake.f k).bind fun aR => (some aR)) else (some false))))))) = some r := h
 clear h
 replace H := Option.bind_eq_some_iff.mp H
 obtain ⟨⟨ak, ax⟩, A40, H⟩ := H
 replace H : ((graftwoodlaw05_One.f a1_0 a1_1).bind fun bt354 => ((store_Get.f k ak ax bt354.1 bt354.2).bind fun bt356 => ((store_Put.f k ak ax bt354.1 bt354.2 a2).bind fun bt358 => (if bt358.2.2 = 0 then (if bt356.2 = 2 then (graftwoodlaw12_StoreMany.j0 k (wrap64 ((ak.length : Int) + 1)) bt358.1 bt358.2.1) else (graftwoodlaw12_StoreMany.j0 k (ak.length : Int) bt358.1 bt358.2.1)) else (if bt356.2 = 1 then ((graftwoodlaw12_awake.f k).bind fun aR => (some aR)) else (some false)))))) = some r := H
 have A4 := Aside0.mk A40
 clear A40
 replace H := Option.bind_eq_some_iff.mp H
 obtain ⟨⟨ay, az⟩, A50, H⟩ := H
 replace H : ((store_Get.f k ak ax ay az).bind fun bt356 => ((store_Put.f k ak ax ay az a2).bind fun bt358 => (if bt358.2.2 = 0 then (if bt356.2 = 2 then (graftwoodlaw12_StoreMany.j0 k (wrap64 ((ak.length : Int) + 1)) bt358.1 bt358.2.1) else (graftwoodlaw12_StoreMany.j0 k (ak.length : Int) bt358.1 bt358.2.1)) else (if bt356.2 = 1 then ((graftwoodlaw12_awake.f k).bind fun aR => (some aR)) else (some false))))) = some r := H
 have A5 := Aside0.mk A50
 clear A50
 replace H := Option.bind_eq_some_iff.mp H
 obtain ⟨⟨b4, aQ⟩, A60, H⟩ := H
 replace H : ((store_Put.f k ak ax ay az a2).bind fun bt358 => (if bt358.2.2 = 0 then (if aQ = 2 then (graftwoodlaw12_StoreMany.j0 k (wrap64 ((ak.length : Int) + 1)) bt358.1 bt358.2.1) else (graftwoodlaw12_StoreMany.j0 k (ak.length : Int) bt358.1 bt358.2.1)) else (if aQ = 1 then ((graftwoodlaw12_awake.f k).bind fun aR => (some aR)) else (some false)))) = some r := H
 have A6 := Aside0.mk A60
 clear A60
 replace H := Option.bind_eq_some_iff.mp H
 obtain ⟨⟨al, au, bA⟩, A70, H⟩ := H
 replace H : (if bA = 0 then (if aQ = 2 then (graftwoodlaw12_StoreMany.j0 k (wrap64 ((ak.length : Int) + 1)) al au) else (graftwoodlaw12_StoreMany.j0 k (ak.length : Int) al au)) else (if aQ = 1 then ((graftwoodlaw12_awake.f k).bind fun aR => (some aR)) else (some false))) = some r := H
 have A7 := Aside0.mk A70
 clear A70
 by_cases c8 : bA = 0
 ·rw [if_pos c8] at H
  have bW : (bA == 0) = true := beq_iff_eq.mpr c8
  have bX : (bA != 0) = false := bne_eq_false_iff_eq.mpr c8
  clear c8
  have HC9 := Aside0.mk H
  clear H
  go_enter Tryd.func4, Tryd.ntmps4
  try go_wp2_with (first | ((with_reducible refine gate_dst (N := 3) rfl ?_); (try (refine gate_guard (by rfl) ?_; dsimp only)); refine box_event ?hg (N := 3) ?hd (cs := #[.slice aU l0_0.length aV, .slice aO l0_1.length aP]) (t := 25) ?hr ?_; (case hd => rfl); (case hg => rfl); (case hr => first | (go_simp; done) | (go_simp; rfl)); intro af hg w10 hbox hb; have aa := am (hbox); have b5 := am ((gT hg HB.out)); have b6 := am ((gT hg HB.out)); replace HB := am (sT HB.out hb); clear hb hbox hg) | ((with_reducible refine gate_dst (N := 4) rfl ?_); (try (refine gate_guard (by rfl) ?_; dsimp only)); refine box_event ?hg (N := 4) ?hd (cs := #[.string a1_0, .string a1_1]) (t := 27) ?hr ?_; (case hd => rfl); (case hg => rfl); (case hr => first | (go_simp; done) | (go_simp; rfl)); intro ad hg w11 hbox hb; have ab := am (hbox); have b7 := am ((gT hg HB.out)); have b8 := am ((gT hg HB.out)); have an := am ((nT aa.out hg)); have ao := am ((mT aa.out hg)); replace aa := am (bB aa.out hb); replace HB := am (sT HB.out hb); clear hb hbox hg))
  have n0_ := am (blk_drew aa.out)
  have n1_ := am (blk_drew ab.out)
  have n2_ := am (below_drew1 HB.out)
  clear aa ab HB
  have aa := n0_
  have ab := n1_
  have HB := n2_
  clear n0_ n1_ n2_
  refine start_ (n := 6) (S := fun w' => w'.cell? ⟨af, 0, none⟩ = some (.slice aU l0_0.length aV) ∧ w'.cell? ⟨af, 1, none⟩ = some (.slice aO l0_1.length aP) ∧ w'.cell? ⟨ad, 0, none⟩ = some (.string a1_0) ∧ w'.cell? ⟨ad, 1, none⟩ = some (.string a1_1)) (ds := [4, 5]) #[false, false, false, false, false, false] (by kernel_rfl) rfl rfl ⟨(blk_cell aa.out 0).trans rfl, (blk_cell aa.out 1).trans rfl, (blk_cell ab.out 0).trans rfl, (blk_cell ab.out 1).trans rfl⟩ (fun hHeld => ?_)
  generalize w11.drew = w12 at aa ab HB hHeld ⊢
  refine take_ (i := 0) (N := some 15) (v := ?_) (a' := ?_) #[true, false, false, false, false, false] rfl rfl (by kernel_rfl) (fun _ _ _ h => h) (Or.inl ⟨by rfl, ?_⟩) hHeld ?_ ?_
  rotate_left
  ·rintro w' ⟨s0, s1, s2, s3⟩
   go_simp
   with_reducible rfl
  rotate_left
  ·simp only [pS]
   rfl
  refine take_ (i := 2) (N := some 17) (v := ?_) (a' := ?_) #[true, false, true, false, false, false] rfl rfl (by kernel_rfl) (fun _ _ _ h => h) (Or.inl ⟨by rfl, ?_⟩) hHeld ?_ ?_
  rotate_left
  ·rintro w' ⟨s0, s1, s2, s3⟩
   go_simp
   with_reducible rfl
  rotate_left
  ·simp only [pS]
   rfl
  refine one_ (i := 1) (N := some 16) #[true, true, true, false, false, false] rfl rfl (by kernel_rfl) (by decide) (fun K hK => ?_)
  refine goes_ Tryd.func7 (by kernel_rfl) rfl #[.agg #[.slice aU l0_0.length aV, .slice aO l0_1.length aP]] (by rfl) rfl rfl (by (try simp only [List.map_toArray, List.map_cons, List.map_nil]); first | done | rfl | (simp only [List.length_drop, List.length_take]; rfl)) ?_
  with_reducible refine (graftwoodlaw12_Few.calls k _ _ l0_0 _ _ l0_1 ak ax _ ?side1 ?side2 ?side3 ?side4 A4.out).mono ?_
  (case side1 => repeat (first | exact (Kd.C_below bZ.out HB.out) | (with_reducible refine Kd.C_alloc ?_ _) | (with_reducible refine Kd.C_drewN ?_ _) | (with_reducible refine Kd.C_drew ?_)))
  (case side2 => exact b0.out)
  (case side3 => repeat (first | exact (Kd.C_below b1.out HB.out) | (with_reducible refine Kd.C_alloc ?_ _) | (with_reducible refine Kd.C_drewN ?_ _) | (with_reducible refine Kd.C_drew ?_)))
  (case side4 => exact b2.out)
  rintro e w13 ⟨dj, dk, rfl, ho0, ho1, hb⟩
  refine ⟨_, rfl, ?_⟩
  have n0_ := am (Kd.R_lower (Kd.R_newB ho0 (g := ad) (o := .cells #[.string a1_0, .string a1_1] 27 (0, 0)) (bT ab.out)) (below_size (eT HB.out)))
  have n1_ := am (Kd.R_lower ho1 (below_size (eT HB.out)))
  have n2_ := am (bB aa.out hb)
  have n3_ := am (bB ab.out hb)
  have n4_ := am (sT HB.out hb)
  clear aa ab HB
  have ag := n0_
  have ah := n1_
  have aa := n2_
  have ab := n3_
  have HB := n4_
  clear n0_ n1_ n2_ n3_ n4_
  (try clear hb)
  (try clear hb2)
  (try clear hk)
  (try clear hi)
  (try clear ho0)
  (try clear ho1)
  refine hK.out _ _ ⟨(blk_cell aa.out 0).trans rfl, (blk_cell aa.out 1).trans rfl, (blk_cell ab.out 0).trans rfl, (blk_cell ab.out 1).trans rfl⟩ (fun hHeld => ?_)
  clear hK K
  refine norm_ (a' := ?_) ?_ ?_
  rotate_left
  ·show Act.put _ (some 16) _ = _
   simp only [pS]
   rfl
  refine one_ (i := 3) (N := some 18) #[true, true, true, true, false, false] rfl rfl (by kernel_rfl) (by decide) (fun K hK => ?_)
  refine goes_ Tryd.func8 (by kernel_rfl) rfl #[.agg #[.string a1_0, .string a1_1]] (by rfl) rfl rfl (by (try simp only [List.map_toArray, List.map_cons, List.map_nil]); first | done | rfl | (simp only [List.length_drop, List.length_take]; rfl)) ?_
  with_reducible refine (graftwoodlaw05_One.calls a1_0 a1_1 ay az _ A5.out).mono ?_
  rintro e w14 ⟨rfl, hb⟩
  refine ⟨_, rfl, ?_⟩
  have n0_ := am (rB ag.out hb)
  have n1_ := am (rB ah.out hb)
  have n2_ := am (bB aa.out hb)
  have n3_ := am (bB ab.out hb)
  have n4_ := am (sT HB.out hb)
  clear ag ah aa ab HB
  have ag := n0_
  have ah := n1_
  have aa := n2_
  have ab := n3_
  have HB := n4_
  clear n0_ n1_ n2_ n3_ n4_
  (try clear hb)
  (try clear hb2)
  (try clear hk)
  (try clear hi)
  obtain ⟨aJ, aH, b9⟩ := Kd.R_slice ag.out
  (first | subst b9 | (injection b9 with f1_ f2_ f3_; have f4_ := f1_.symm; have f5_ := f3_.symm; clear f1_ f2_ f3_; subst f4_; subst f5_))
  obtain ⟨aL, aK, b_⟩ := Kd.R_slice ah.out
  (first | subst b_ | (injection b_ with f1_ f2_ f3_; have f4_ := f1_.symm; have f5_ := f3_.symm; clear f1_ f2_ f3_; subst f4_; subst f5_))
  refine hK.out _ _ ⟨(blk_cell aa.out 0).trans rfl, (blk_cell aa.out 1).trans rfl, (blk_cell ab.out 0).trans rfl, (blk_cell ab.out 1).trans rfl⟩ (fun hHeld => ?_)
  clear hK K
  refine norm_ (a' := ?_) ?_ ?_
  rotate_left
  ·show Act.put _ (some 18) _ = _
   simp only [pS]
   rfl
  refine last_ (i := 4) (N := none) #[true, true, true, true, true, false] rfl rfl (by kernel_rfl) (by decide) (fun K hK => ?_)
  have d6 : w14.cell? ⟨af, 0, none⟩ = some (.slice aU l0_0.length aV) := (blk_cell aa.out 0).trans rfl
  have dt := blk_frozen aa.out 0
  have cp := ao.out
  have cq := an.out
  have d7 : w14.cell? ⟨af, 1, none⟩ = some (.slice aO l0_1.length aP) := (blk_cell aa.out 1).trans rfl
  have du := blk_frozen aa.out 1
  have cr := ao.out
  have ct := an.out
  refine skip_ (w1 := ?_) (by rfl) rfl ?_ ?_
  rotate_left
  ·go_simp
   rfl
  refine hK.out _ _ ?_
  clear hK K
  refine last_ (i := 5) (N := none) #[true, true, true, true, true, true] rfl rfl (by kernel_rfl) (by decide) (fun K hK => ?_)
  have d8 : w14.cell? ⟨ad, 0, none⟩ = some (.string a1_0) := (blk_cell ab.out 0).trans rfl
  have dv := blk_frozen ab.out 0
  have cu := an.out
  have cv := ao.out
  have d9 : w14.cell? ⟨ad, 1, none⟩ = some (.string a1_1) := (blk_cell ab.out 1).trans rfl
  have dw := blk_frozen ab.out 1
  have cw := an.out
  have cx := ao.out
  refine skip_ (w1 := ?_) (by rfl) rfl ?_ ?_
  rotate_left
  ·go_simp
   rfl
  refine hK.out _ _ ?_
  clear hK K
  refine done_ (by kernel_rfl) ?_
  have dx := an.out
  have dy := ao.out
  have a8 : w14.cell? ⟨af, 0, none⟩ = some (.slice aU l0_0.length aV) := (blk_cell aa.out 0).trans rfl
  have a9 : w14.cell? ⟨af, 1, none⟩ = some (.slice aO l0_1.length aP) := (blk_cell aa.out 1).trans rfl
  have a_ := blk_frozen aa.out 0
  have bb := blk_frozen aa.out 1
  have bc : w14.cell? ⟨ad, 0, none⟩ = some (.string a1_0) := (blk_cell ab.out 0).trans rfl
  have be : w14.cell? ⟨ad, 1, none⟩ = some (.string a1_1) := (blk_cell ab.out 1).trans rfl
  have bf := blk_frozen ab.out 0
  have bg := blk_frozen ab.out 1
  go_upto_if 43 with (first | ((with_reducible refine gate_callee (f := 11) rfl ?_); refine goesL_ (some 22) rfl rfl Tryd.func11 (by kernel_rfl) rfl #[.agg #[.slice aJ ak.length aH, .slice aL ax.length aK], .agg #[.string ay, .string az]] rfl (by (try simp only [List.map_toArray, List.map_cons, List.map_nil]); first | done | rfl | (simp only [List.length_drop, List.length_take]; rfl)) ?_; (with_reducible refine (store_Get.calls k _ _ ak _ _ ax ay az b4 aQ _ ?side1 ?side2 ?side3 ?side4 A6.out).mono ?_); (case side1 => refine (Kd.R_reads' (e := 27) (base := w.heap.size) (ok := fun k_ => (True ∧ k_ ≠ ad)) (n := ak.length) (c := aH) ?_).2.2; exact (by (with_reducible repeat (first | apply Kd.R_alloc | apply Kd.R_drewN | apply Kd.R_drew)); exact (Kd.R_mono (Kd.R_mono (Kd.R_far (p := ⟨ad, 1, none⟩) (Kd.R_far (p := ⟨ad, 0, none⟩) (Kd.R_far (p := ⟨af, 1, none⟩) (Kd.R_far (p := ⟨af, 0, none⟩) (Kd.R_mono (Kd.R_types ag.out aa.out (by decide)) (fun k_ hk => (⟨hk, hk.1.2⟩ : _ ∧ k_ ≠ ad))) (fun _ hk => hk.1.2) (.slice aJ ak.length aH)) (fun _ hk => hk.1.2) (.slice aL ax.length aK)) (fun _ hk => hk.2) (.string ay)) (fun _ hk => hk.2) (.string az)) (fun _ h_ => h_.1)) (fun _ h_ => h_.1)))); (case side2 => exact (Kd.R_reads' ag.out).2.1); (case side3 => refine (Kd.R_reads' (e := 9) (base := w.heap.size) (ok := fun k_ => True) (n := ax.length) (c := aK) ?_).2.2; exact (by (with_reducible repeat (first | apply Kd.R_alloc | apply Kd.R_drewN | apply Kd.R_drew)); exact (Kd.R_mono (Kd.R_mono (Kd.R_far (p := ⟨ad, 1, none⟩) (Kd.R_far (p := ⟨ad, 0, none⟩) (Kd.R_far (p := ⟨af, 1, none⟩) (Kd.R_far (p := ⟨af, 0, none⟩) (Kd.R_types (Kd.R_types ah.out aa.out (by decide)) ab.out (by decide)) (fun _ hk => hk.1.2) (.slice aJ ak.length aH)) (fun _ hk => hk.1.2) (.slice aL ax.length aK)) (fun _ hk => hk.2) (.string ay)) (fun _ hk => hk.2) (.string az)) (fun _ h_ => h_.1)) (fun _ h_ => h_.1)))); (case side4 => exact (Kd.R_reads' ah.out).2.1); rintro e w24 ⟨rfl, hb⟩; refine ⟨_, rfl, ?_⟩; replace ag := am (Kd.R_below (by (with_reducible repeat (first | apply Kd.R_alloc | apply Kd.R_drewN | apply Kd.R_drew)); exact (Kd.R_mono (Kd.R_mono (Kd.R_far (p := ⟨ad, 1, none⟩) (Kd.R_far (p := ⟨ad, 0, none⟩) (Kd.R_far (p := ⟨af, 1, none⟩) (Kd.R_far (p := ⟨af, 0, none⟩) (Kd.R_mono (Kd.R_types ag.out aa.out (by decide)) (fun k_ hk => (⟨hk, hk.1.2⟩ : _ ∧ k_ ≠ ad))) (fun _ hk => hk.1.2) (.slice aJ ak.length aH)) (fun _ hk => hk.1.2) (.slice aL ax.length aK)) (fun _ hk => hk.2) (.string ay)) (fun _ hk => hk.2) (.string az)) (fun _ h_ => h_.1)) (fun _ h_ => h_.1))) hb); replace ah := am (Kd.R_below (by (with_reducible repeat (first | apply Kd.R_alloc | apply Kd.R_drewN | apply Kd.R_drew)); exact (Kd.R_mono (Kd.R_mono (Kd.R_far (p := ⟨ad, 1, none⟩) (Kd.R_far (p := ⟨ad, 0, none⟩) (Kd.R_far (p := ⟨af, 1, none⟩) (Kd.R_far (p := ⟨af, 0, none⟩) (Kd.R_types (Kd.R_types ah.out aa.out (by decide)) ab.out (by decide)) (fun _ hk => hk.1.2) (.slice aJ ak.length aH)) (fun _ hk => hk.1.2) (.slice aL ax.length aK)) (fun _ hk => hk.2) (.string ay)) (fun _ hk => hk.2) (.string az)) (fun _ h_ => h_.1)) (fun _ h_ => h_.1))) hb); replace HB := am (below_step (by repeat (first | (with_reducible first | exact HB.out | apply pA | apply pN | apply pD | refine eU ?_ (by assumption)) | exact HB.out)) hb); replace aa := am (blk_below (g := af) (o := .cells #[.slice aJ ak.length aH, .slice aL ax.length aK] 25 (0, 0)) (by (with_reducible repeat (first | apply bn | apply bd | apply ba)); refine blk_far ?_ an.out _; (with_reducible repeat (first | apply bn | apply bd | apply ba)); refine blk_far ?_ an.out _; (with_reducible repeat (first | apply bn | apply bd | apply ba)); refine blk_put (cs := #[.slice aJ ak.length aH, .slice aO l0_1.length aP]) ?_ 1 _ rfl; (with_reducible repeat (first | apply bn | apply bd | apply ba)); refine blk_put (cs := #[.slice aU l0_0.length aV, .slice aO l0_1.length aP]) ?_ 0 _ rfl; exact bT aa.out) hb); replace ab := am (blk_below (g := ad) (o := .cells #[.string ay, .string az] 27 (0, 0)) (by (with_reducible repeat (first | apply bn | apply bd | apply ba)); refine blk_put (cs := #[.string ay, .string a1_1]) ?_ 1 _ rfl; (with_reducible repeat (first | apply bn | apply bd | apply ba)); refine blk_put (cs := #[.string a1_0, .string a1_1]) ?_ 0 _ rfl; (with_reducible repeat (first | apply bn | apply bd | apply ba)); refine blk_far ?_ ao.out _; (with_reducible repeat (first | apply bn | apply bd | apply ba)); refine blk_far ?_ ao.out _; exact bT ab.out) hb); (try clear hb); (try clear hb2); (try clear hk); (try clear hi); have bh : w24.cell? ⟨af, 0, none⟩ = some (.slice aJ ak.length aH) := (blk_cell aa.out 0).trans rfl; have bi : w24.cell? ⟨af, 1, none⟩ = some (.slice aL ax.length aK) := (blk_cell aa.out 1).trans rfl; have bj := blk_frozen aa.out 0; have bk := blk_frozen aa.out 1; have bl : w24.cell? ⟨ad, 0, none⟩ = some (.string ay) := (blk_cell ab.out 0).trans rfl; have bm : w24.cell? ⟨ad, 1, none⟩ = some (.string az) := (blk_cell ab.out 1).trans rfl; have bo := blk_frozen ab.out 0; have bp := blk_frozen ab.out 1) | ((with_reducible refine gate_callee (f := 9) rfl ?_); refine goesL_ (some 29) rfl rfl Tryd.func9 (by kernel_rfl) rfl #[.agg #[.slice aJ ak.length aH, .slice aL ax.length aK], .agg #[.string ay, .string az], .string a2] rfl (by (try simp only [List.map_toArray, List.map_cons, List.map_nil]); first | done | rfl | (simp only [List.length_drop, List.length_take]; rfl)) ?_; (with_reducible refine (store_Put.calls k (fun k_ => some k_ = (.slice aJ ak.length aH : Value).ownBlock) _ _ ak (fun k_ => some k_ = (.slice aL ax.length aK : Value).ownBlock) _ _ ax ay az a2 al au bA _ ?side1 ?side2 A7.out).mono ?_); (case side1 => exact Kd.R_V (Kd.R_tight rfl (Kd.R_types (Kd.R_apart' (ag.out) (Kd.R_typed ah.out) (by decide)) aa.out (by decide)))); (case side2 => exact Kd.R_V (Kd.R_tight rfl (Kd.R_types (Kd.R_types (Kd.R_apart' (ah.out) (Kd.R_typed ag.out) (by decide)) aa.out (by decide)) ab.out (by decide)))); rintro e w27 ⟨dl, dm, rfl, ho0, ho1, hb⟩; refine ⟨_, rfl, ?_⟩; have aM := am (Kd.V_lower (Kd.V_mono (ok' := fun k_ => k_ ≠ af ∧ k_ ≠ ad) ho0 (fun k_ hk_ => ⟨Or.elim hk_ (fun hs_ => Or.elim hs_ (fun hs_ => ((Kd.R_types (Kd.R_apart' (ag.out) (Kd.R_typed ah.out) (by decide)) aa.out (by decide)).1 k_ hs_.symm).2) (fun hs_ => ((Kd.R_types (Kd.R_types (Kd.R_apart' (ah.out) (Kd.R_typed ag.out) (by decide)) aa.out (by decide)) ab.out (by decide)).1 k_ hs_.symm).1.2)) (fun hn_ => (Kd.freshB (g := af) (o := .cells #[.slice aJ ak.length aH, .slice aL ax.length aK] 25 (0, 0)) (bT aa.out) k_ hn_)), Or.elim hk_ (fun hs_ => Or.elim hs_ (fun hs_ => ((Kd.R_types (Kd.R_apart' (ag.out) (Kd.R_typed ah.out) (by decide)) aa.out (by decide)).1 k_ hs_.symm).1.1.2) (fun hs_ => ((Kd.R_types (Kd.R_types (Kd.R_apart' (ah.out) (Kd.R_typed ag.out) (by decide)) aa.out (by decide)) ab.out (by decide)).1 k_ hs_.symm).2)) (fun hn_ => (Kd.freshB (g := ad) (o := .cells #[.string ay, .string az] 27 (0, 0)) (bT ab.out) k_ hn_))⟩)) (below_size (by repeat (first | (with_reducible first | exact HB.out | apply pA | apply pN | apply pD | refine eU ?_ (by assumption)) | exact HB.out)))); have aN := am (Kd.V_lower (Kd.V_mono (ok' := fun k_ => k_ ≠ af ∧ k_ ≠ ad) ho1 (fun k_ hk_ => ⟨Or.elim hk_ (fun hs_ => Or.elim hs_ (fun hs_ => ((Kd.R_types (Kd.R_apart' (ag.out) (Kd.R_typed ah.out) (by decide)) aa.out (by decide)).1 k_ hs_.symm).2) (fun hs_ => ((Kd.R_types (Kd.R_types (Kd.R_apart' (ah.out) (Kd.R_typed ag.out) (by decide)) aa.out (by decide)) ab.out (by decide)).1 k_ hs_.symm).1.2)) (fun hn_ => (Kd.freshB (g := af) (o := .cells #[.slice aJ ak.length aH, .slice aL ax.length aK] 25 (0, 0)) (bT aa.out) k_ hn_)), Or.elim hk_ (fun hs_ => Or.elim hs_ (fun hs_ => ((Kd.R_types (Kd.R_apart' (ag.out) (Kd.R_typed ah.out) (by decide)) aa.out (by decide)).1 k_ hs_.symm).1.1.2) (fun hs_ => ((Kd.R_types (Kd.R_types (Kd.R_apart' (ah.out) (Kd.R_typed ag.out) (by decide)) aa.out (by decide)) ab.out (by decide)).1 k_ hs_.symm).2)) (fun hn_ => (Kd.freshB (g := ad) (o := .cells #[.string ay, .string az] 27 (0, 0)) (bT ab.out) k_ hn_))⟩)) (below_size (by repeat (first | (with_reducible first | exact HB.out | apply pA | apply pN | apply pD | refine eU ?_ (by assumption)) | exact HB.out)))); replace ag := am (rB ag.out hb); replace ah := am (rB ah.out hb); replace aa := am (bB aa.out hb); replace ab := am (bB ab.out hb); replace HB := am (below_step (by repeat (first | (with_reducible first | exact HB.out | apply pA | apply pN | apply pD | refine eU ?_ (by assumption)) | exact HB.out)) hb); (try clear hb); (try clear hb2); (try clear hk); (try clear hi); (try clear ho0); (try clear ho1)) | ((with_reducible refine gate_dst (N := 9) rfl ?_); (try (refine gate_guard (by rfl) ?_; dsimp only)); refine box_event ?hg (N := 9) ?hd (cs := #[.slice none 0 0, .slice none 0 0]) (t := 25) ?hr ?_; (case hd => rfl); (case hg => rfl); (case hr => first | (go_simp; done) | (go_simp; rfl)); intro ac hg w28 hbox hb; replace ag := am (rB ag.out hb); replace ah := am (rB ah.out hb); replace aM := am (Kd.V_below (Kd.V_elderB (vT aM.out) ac (Nat.le_of_eq hg.symm)) hb); replace aN := am (Kd.V_below (Kd.V_elderB (vT aN.out) ac (Nat.le_of_eq hg.symm)) hb); have ae := am (hbox); have ca := am ((by rw [hg]; exact (below_size (by repeat (first | (with_reducible first | exact HB.out | apply pA | apply pN | apply pD | refine eU ?_ (by assumption)) | exact HB.out))) : w.heap.size ≤ ac)); have cb := am ((by rw [hg]; exact (below_size (by repeat (first | (with_reducible first | exact HB.out | apply pA | apply pN | apply pD | refine eU ?_ (by assumption)) | exact HB.out))) : w.heap.size ≤ ac)); have av := am ((nT aa.out hg)); have aB := am ((mT aa.out hg)); have aw := am ((nT ab.out hg)); have aC := am ((mT ab.out hg)); replace aa := am (bB aa.out hb); replace ab := am (bB ab.out hb); replace HB := am (below_step (by repeat (first | (with_reducible first | exact HB.out | apply pA | apply pN | apply pD | refine eU ?_ (by assumption)) | exact HB.out)) hb); clear hb hbox hg; obtain ⟨aI, aE, dn⟩ := Kd.V_slice aM.out; subst dn; have dz := aB.out; have dA := av.out; have dB := aC.out; have dC := aw.out; have bq : w28.cell? ⟨ac, 0, none⟩ = some (.slice none 0 0) := (blk_cell ae.out 0).trans rfl; have br : w28.cell? ⟨ac, 1, none⟩ = some (.slice none 0 0) := (blk_cell ae.out 1).trans rfl; have bs := blk_frozen ae.out 0; have bt := blk_frozen ae.out 1; obtain ⟨aF, aG, dp⟩ := Kd.V_slice aN.out; subst dp; have bu : w28.cell? ⟨af, 0, none⟩ = some (.slice aJ ak.length aH) := (blk_cell aa.out 0).trans rfl; have bv : w28.cell? ⟨af, 1, none⟩ = some (.slice aL ax.length aK) := (blk_cell aa.out 1).trans rfl; have bw := blk_frozen aa.out 0; have bx := blk_frozen aa.out 1))
  (try simp only [Act.put, List.setIfInBounds_toArray, List.set_cons_zero, List.set_cons_succ])
  go_cut [11] (fun v11 wc => ∃ (kq : Nat) (aW : Int), v11 = .int .i64 aW ∧ Aside0 (graftwoodlaw12_StoreMany.j0 kq aW al au = some r) ∧ Aside0 (kq ≤ k) ∧ Aside0 (Kd.R k27 27 wc w.heap.size (fun k_ => k_ ≠ ad) (.slice aJ ak.length aH) ak) ∧ Aside0 (Kd.R Kd.string 9 wc w.heap.size (fun _ => True) (.slice aL ax.length aK) ax) ∧ Aside0 (Kd.V k27 27 wc w.heap.size (fun k_ => k_ ≠ af ∧ k_ ≠ ad ∧ k_ ≠ ac) (.slice aI al.length aE) al) ∧ Aside0 (Kd.V Kd.string 9 wc w.heap.size (fun k_ => k_ ≠ af ∧ k_ ≠ ad ∧ k_ ≠ ac) (.slice aF au.length aG) au) ∧ Aside0 (wc.heap[af]? = some (.cells #[(.slice aJ ak.length aH), (.slice aL ax.length aK)] 25 (0, 0))) ∧ Aside0 (wc.heap[ad]? = some (.cells #[.string ay, .string az] 27 (0, 0))) ∧ Aside0 (wc.heap[ac]? = some (.cells #[(.slice aI al.length aE), (.slice aF au.length aG)] 25 (0, 0))) ∧ Aside0 (Below w.heap.size w wc))
  case first =>
   have H := HC9.out
   clear HC9
   by_cases c35 : aQ = 2
   ·rw [if_pos c35] at H
    have a5 : (aQ == 2) = true := beq_iff_eq.mpr c35
    have bE : (aQ != 2) = false := bne_eq_false_iff_eq.mpr c35
    clear c35
    (first | rw [a5] | (simp only [i64_w, i32_w]; rw [a5]) | skip)
    have H' := Aside0.mk H
    clear H
    go_wp2
    go_meet
    case rel => exact ⟨_, (wrap64 ((ak.length : Int) + 1)), (by first | rfl | (simp; done) | (simp [*]; done)), H', ⟨by first | omega | exact Nat.le_refl _⟩, ⟨by (with_reducible repeat (first | apply Kd.R_alloc | apply Kd.R_drewN | apply Kd.R_drew)); exact Kd.R_mono (Kd.R_far (p := ⟨ac, 1, none⟩) (Kd.R_far (p := ⟨ac, 0, none⟩) (Kd.R_types ag.out ae.out (by decide)) (fun _ hk => hk.2) (.slice aI al.length aE)) (fun _ hk => hk.2) (.slice aF au.length aG)) (fun _ hk => hk.1.2)⟩, ⟨by (with_reducible repeat (first | apply Kd.R_alloc | apply Kd.R_drewN | apply Kd.R_drew)); exact Kd.R_mono (Kd.R_far (p := ⟨ac, 1, none⟩) (Kd.R_far (p := ⟨ac, 0, none⟩) (Kd.R_types ah.out ae.out (by decide)) (fun _ hk => hk.2) (.slice aI al.length aE)) (fun _ hk => hk.2) (.slice aF au.length aG)) (fun _ hk => trivial)⟩, ⟨by (with_reducible repeat (first | apply Kd.V_alloc | apply Kd.V_drewN | apply Kd.V_drew)); exact Kd.V_mono (Kd.V_far (p := ⟨ac, 1, none⟩) (Kd.V_far (p := ⟨ac, 0, none⟩) (Kd.V_mono aM.out (fun k_ hk => (⟨hk, hk.2⟩ : _ ∧ k_ ≠ ac))) (fun _ hk => hk.2) (.slice aI al.length aE)) (fun _ hk => hk.2) (.slice aF au.length aG)) (fun _ hk => ⟨hk.1.1.1, ⟨hk.1.1.2, hk.1.2⟩⟩)⟩, ⟨by (with_reducible repeat (first | apply Kd.V_alloc | apply Kd.V_drewN | apply Kd.V_drew)); exact Kd.V_mono (Kd.V_far (p := ⟨ac, 1, none⟩) (Kd.V_far (p := ⟨ac, 0, none⟩) (Kd.V_mono aN.out (fun k_ hk => (⟨hk, hk.2⟩ : _ ∧ k_ ≠ ac))) (fun _ hk => hk.2) (.slice aI al.length aE)) (fun _ hk => hk.2) (.slice aF au.length aG)) (fun _ hk => ⟨hk.1.1.1, ⟨hk.1.1.2, hk.1.2⟩⟩)⟩, ⟨by (with_reducible repeat (first | apply bn | apply bd | apply ba)); refine blk_far ?_ av.out _; (with_reducible repeat (first | apply bn | apply bd | apply ba)); refine blk_far ?_ av.out _; exact bT aa.out⟩, ⟨by (with_reducible repeat (first | apply bn | apply bd | apply ba)); refine blk_far ?_ aw.out _; (with_reducible repeat (first | apply bn | apply bd | apply ba)); refine blk_far ?_ aw.out _; exact bT ab.out⟩, ⟨by (with_reducible repeat (first | apply bn | apply bd | apply ba)); refine blk_put (cs := #[.slice aI al.length aE, .slice none 0 0]) ?_ 1 _ rfl; (with_reducible repeat (first | apply bn | apply bd | apply ba)); refine blk_put (cs := #[.slice none 0 0, .slice none 0 0]) ?_ 0 _ rfl; exact bT ae.out⟩, ⟨by repeat (first | (with_reducible first | exact HB.out | apply pA | apply pN | apply pD | refine eU ?_ (by assumption)) | exact HB.out)⟩⟩
   ·rw [if_neg c35] at H
    have a5 : (aQ == 2) = false := beq_eq_false_iff_ne.mpr c35
    have bE : (aQ != 2) = true := bne_iff_ne.mpr c35
    (first | rw [a5] | (simp only [i64_w, i32_w]; rw [a5]) | skip)
    have H' := Aside0.mk H
    clear H
    go_wp2
    go_meet
    case rel => exact ⟨_, ((ak.length : Int)), (by first | rfl | (simp; done) | (simp [*]; done)), H', ⟨by first | omega | exact Nat.le_refl _⟩, ⟨by (with_reducible repeat (first | apply Kd.R_alloc | apply Kd.R_drewN | apply Kd.R_drew)); exact Kd.R_mono (Kd.R_far (p := ⟨ac, 1, none⟩) (Kd.R_far (p := ⟨ac, 0, none⟩) (Kd.R_types ag.out ae.out (by decide)) (fun _ hk => hk.2) (.slice aI al.length aE)) (fun _ hk => hk.2) (.slice aF au.length aG)) (fun _ hk => hk.1.2)⟩, ⟨by (with_reducible repeat (first | apply Kd.R_alloc | apply Kd.R_drewN | apply Kd.R_drew)); exact Kd.R_mono (Kd.R_far (p := ⟨ac, 1, none⟩) (Kd.R_far (p := ⟨ac, 0, none⟩) (Kd.R_types ah.out ae.out (by decide)) (fun _ hk => hk.2) (.slice aI al.length aE)) (fun _ hk => hk.2) (.slice aF au.length aG)) (fun _ hk => trivial)⟩, ⟨by (with_reducible repeat (first | apply Kd.V_alloc | apply Kd.V_drewN | apply Kd.V_drew)); exact Kd.V_mono (Kd.V_far (p := ⟨ac, 1, none⟩) (Kd.V_far (p := ⟨ac, 0, none⟩) (Kd.V_mono aM.out (fun k_ hk => (⟨hk, hk.2⟩ : _ ∧ k_ ≠ ac))) (fun _ hk => hk.2) (.slice aI al.length aE)) (fun _ hk => hk.2) (.slice aF au.length aG)) (fun _ hk => ⟨hk.1.1.1, ⟨hk.1.1.2, hk.1.2⟩⟩)⟩, ⟨by (with_reducible repeat (first | apply Kd.V_alloc | apply Kd.V_drewN | apply Kd.V_drew)); exact Kd.V_mono (Kd.V_far (p := ⟨ac, 1, none⟩) (Kd.V_far (p := ⟨ac, 0, none⟩) (Kd.V_mono aN.out (fun k_ hk => (⟨hk, hk.2⟩ : _ ∧ k_ ≠ ac))) (fun _ hk => hk.2) (.slice aI al.length aE)) (fun _ hk => hk.2) (.slice aF au.length aG)) (fun _ hk => ⟨hk.1.1.1, ⟨hk.1.1.2, hk.1.2⟩⟩)⟩, ⟨by (with_reducible repeat (first | apply bn | apply bd | apply ba)); refine blk_far ?_ av.out _; (with_reducible repeat (first | apply bn | apply bd | apply ba)); refine blk_far ?_ av.out _; exact bT aa.out⟩, ⟨by (with_reducible repeat (first | apply bn | apply bd | apply ba)); refine blk_far ?_ aw.out _; (with_reducible repeat (first | apply bn | apply bd | apply ba)); refine blk_far ?_ aw.out _; exact bT ab.out⟩, ⟨by (with_reducible repeat (first | apply bn | apply bd | apply ba)); refine blk_put (cs := #[.slice aI al.length aE, .slice none 0 0]) ?_ 1 _ rfl; (with_reducible repeat (first | apply bn | apply bd | apply ba)); refine blk_put (cs := #[.slice none 0 0, .slice none 0 0]) ?_ 0 _ rfl; exact bT ae.out⟩, ⟨by repeat (first | (with_reducible first | exact HB.out | apply pA | apply pN | apply pD | refine eU ?_ (by assumption)) | exact HB.out)⟩⟩
  case rest =>
   clear HC9
   try clear c1
   try clear c2
   try clear p2
   try clear c3
   try clear c4
   try clear p6
   try clear c7
   try clear c8
   try clear bW
   try clear bX
   try clear c9
   try clear c11
   try clear c21
   try clear c30
   try clear c31
   try clear c35
   try clear a5
   try clear bE
   try clear a8
   try clear a9
   try clear bc
   try clear be
   try clear bh
   try clear bi
   try clear bl
   try clear bm
   try clear bq
   try clear br
   try clear bu
   try clear bv
   try clear a_
   try clear bb
   try clear bf
   try clear bg
   try clear bj
   try clear bk
   try clear bo
   try clear bp
   try clear bs
   try clear bt
   try clear bw
   try clear bx
   obtain ⟨kq, aW, rfl, HA, HJ8, ap, aq, ai, aj, aa, ab, ae, HB⟩ := hcut
   cases kq with
   | zero => exact absurd HA.out (by simp [graftwoodlaw12_StoreMany.j0])
   | succ kj8 =>
    have H := HA.out
    clear HA
    simp only [graftwoodlaw12_StoreMany.j0] at H
    have b3 := Aside0.mk H
    clear H
    go_upto_region 9 with (fail)
    go_cut [57] (fun v57 wc => ∃ (kq : Nat) (bz : Bool), v57 = .bool bz ∧ Aside0 (graftwoodlaw12_StoreMany.j1 kq bz al au = some r) ∧ Aside0 (kq ≤ kj8) ∧ Aside0 (Kd.R k27 27 wc w.heap.size (fun k_ => k_ ≠ ad) (.slice aJ ak.length aH) ak) ∧ Aside0 (Kd.R Kd.string 9 wc w.heap.size (fun _ => True) (.slice aL ax.length aK) ax) ∧ Aside0 (Kd.V k27 27 wc w.heap.size (fun k_ => k_ ≠ af ∧ k_ ≠ ad ∧ k_ ≠ ac) (.slice aI al.length aE) al) ∧ Aside0 (Kd.V Kd.string 9 wc w.heap.size (fun k_ => k_ ≠ af ∧ k_ ≠ ad ∧ k_ ≠ ac) (.slice aF au.length aG) au) ∧ Aside0 (wc.heap[af]? = some (.cells #[(.slice aJ ak.length aH), (.slice aL ax.length aK)] 25 (0, 0))) ∧ Aside0 (wc.heap[ad]? = some (.cells #[.string ay, .string az] 27 (0, 0))) ∧ Aside0 (wc.heap[ac]? = some (.cells #[(.slice aI al.length aE), (.slice aF au.length aG)] 25 (0, 0))) ∧ Aside0 (Below w.heap.size w wc))
    case first =>
     have H := b3.out
     clear b3
     by_cases c37 : (al.length : Int) = aW
     ·rw [if_pos c37] at H
      have a7 : ((al.length : Int) == aW) = true := beq_iff_eq.mpr c37
      have bR : ((al.length : Int) != aW) = false := bne_eq_false_iff_eq.mpr c37
      clear c37
      (first | rw [a7] | (simp only [i64_w, i32_w]; rw [a7]) | skip)
      have H' := Aside0.mk H
      clear H
      have dD := aB.out
      have dE := av.out
      have dF := aC.out
      have dG := aw.out
      have bF : wc.cell? ⟨ac, 0, none⟩ = some (.slice aI al.length aE) := (blk_cell ae.out 0).trans rfl
      have bG : wc.cell? ⟨ac, 1, none⟩ = some (.slice aF au.length aG) := (blk_cell ae.out 1).trans rfl
      have bH := blk_frozen ae.out 0
      have bI := blk_frozen ae.out 1
      go_wp2
      go_meet
      case rel => exact ⟨_, (((au.length : Int) != aW)), (by first | rfl | (simp; done) | (simp [*]; done)), H', ⟨by have := HJ8.out; first | omega | exact Nat.le_refl _⟩, ⟨rT ap.out⟩, ⟨rT aq.out⟩, ⟨vT ai.out⟩, ⟨vT aj.out⟩, ⟨bT aa.out⟩, ⟨bT ab.out⟩, ⟨bT ae.out⟩, ⟨eT HB.out⟩⟩
     ·rw [if_neg c37] at H
      have a7 : ((al.length : Int) == aW) = false := beq_eq_false_iff_ne.mpr c37
      have bR : ((al.length : Int) != aW) = true := bne_iff_ne.mpr c37
      (first | rw [a7] | (simp only [i64_w, i32_w]; rw [a7]) | skip)
      have H' := Aside0.mk H
      clear H
      have dH := aB.out
      have dI := av.out
      have dJ := aC.out
      have dK := aw.out
      have bJ : wc.cell? ⟨ac, 0, none⟩ = some (.slice aI al.length aE) := (blk_cell ae.out 0).trans rfl
      have bK : wc.cell? ⟨ac, 1, none⟩ = some (.slice aF au.length aG) := (blk_cell ae.out 1).trans rfl
      have bL := blk_frozen ae.out 0
      have bM := blk_frozen ae.out 1
      go_wp2
      go_meet
      case rel => exact ⟨_, (true), (by first | rfl | (simp; done) | (simp [*]; done)), H', ⟨by have := HJ8.out; first | omega | exact Nat.le_refl _⟩, ⟨rT ap.out⟩, ⟨rT aq.out⟩, ⟨vT ai.out⟩, ⟨vT aj.out⟩, ⟨bT aa.out⟩, ⟨bT ab.out⟩, ⟨bT ae.out⟩, ⟨eT HB.out⟩⟩
    case rest =>
     clear b3
     try clear c1
     try clear c2
     try clear p2
     try clear c3
     try clear c4
     try clear p6
     try clear c7
     try clear c8
     try clear bW
     try clear bX
     try clear c9
     try clear c11
     try clear c21
     try clear c30
     try clear c31
     try clear c35
     try clear a5
     try clear bE
     try clear c37
     try clear a7
     try clear bR
     try clear c38
     try clear c39
     try clear c41
     try clear c42
     try clear a8
     try clear a9
     try clear bc
     try clear be
     try clear bh
     try clear bi
     try clear bl
     try clear bm
     try clear bq
     try clear br
     try clear bu
     try clear bv
     try clear bF
     try clear bG
     try clear bJ
     try clear bK
     try clear a_
     try clear bb
     try clear bf
     try clear bg
     try clear bj
     try clear bk
     try clear bo
     try clear bp
     try clear bs
     try clear bt
     try clear bw
     try clear bx
     try clear bH
     try clear bI
     try clear bL
     try clear bM
     try clear p2
     try clear p6
     obtain ⟨kq, bz, rfl, HA, cc, ap, aq, ai, aj, aa, ab, ae, HB⟩ := hcut
     cases kq with
     | zero => exact absurd HA.out (by simp [graftwoodlaw12_StoreMany.j1])
     | succ kj35 =>
      have H := HA.out
      clear HA
      simp only [graftwoodlaw12_StoreMany.j1] at H
      by_cases c44 : bz = true
      ·subst c44
       have H1 : (some false) = some r := by rw [if_pos rfl] at H; exact H
       clear H
       have H := H1
       clear H1
       exact absurd ((Option.some.inj H).trans hR_) (by decide)
      ·replace c44 := Bool.eq_false_iff.mpr c44
       subst c44
       have H1 : (graftwoodlaw12_StoreMany.l0 kj35 0 al au) = some r := by rw [if_neg (show ¬ (false = true) by decide)] at H; exact H
       clear H
       have H := H1
       clear H1
       have H' := Aside0.mk H
       clear H
       go_wp2
       go_loopg [12] kj35 (fun kq v12 w' => ∃ (ar : Int), v12 = .int .i64 ar ∧ Aside0 (graftwoodlaw12_StoreMany.l0 kq ar al au = some r) ∧ Aside0 (kq ≤ kj35) ∧ Aside0 (Kd.R k27 27 w' w.heap.size (fun k_ => k_ ≠ ad) (.slice aJ ak.length aH) ak) ∧ Aside0 (Kd.R Kd.string 9 w' w.heap.size (fun _ => True) (.slice aL ax.length aK) ax) ∧ Aside0 (Kd.V k27 27 w' w.heap.size (fun k_ => k_ ≠ af ∧ k_ ≠ ad ∧ k_ ≠ ac) (.slice aI al.length aE) al) ∧ Aside0 (Kd.V Kd.string 9 w' w.heap.size (fun k_ => k_ ≠ af ∧ k_ ≠ ad ∧ k_ ≠ ac) (.slice aF au.length aG) au) ∧ Aside0 (w'.heap[af]? = some (.cells #[(.slice aJ ak.length aH), (.slice aL ax.length aK)] 25 (0, 0))) ∧ Aside0 (w'.heap[ad]? = some (.cells #[.string ay, .string az] 27 (0, 0))) ∧ Aside0 (w'.heap[ac]? = some (.cells #[(.slice aI al.length aE), (.slice aF au.length aG)] 25 (0, 0))) ∧ Aside0 (Below w.heap.size w w'))
       case atStart => exact ⟨(0), (by first | rfl | (simp; done) | (simp [*]; done)), H', ⟨Nat.le_refl _⟩, ⟨rT ap.out⟩, ⟨rT aq.out⟩, ⟨vT ai.out⟩, ⟨vT aj.out⟩, ⟨bT aa.out⟩, ⟨bT ab.out⟩, ⟨bT ae.out⟩, ⟨eT HB.out⟩⟩
       case round =>
        clear H'
        try clear c1
        try clear c2
        try clear p2
        try clear c3
        try clear c4
        try clear p6
        try clear c7
        try clear c8
        try clear bW
        try clear bX
        try clear c9
        try clear c11
        try clear c21
        try clear c30
        try clear c31
        try clear c35
        try clear a5
        try clear bE
        try clear c37
        try clear a7
        try clear bR
        try clear c38
        try clear c39
        try clear c41
        try clear c42
        try clear c44
        try clear a8
        try clear a9
        try clear bc
        try clear be
        try clear bh
        try clear bi
        try clear bl
        try clear bm
        try clear bq
        try clear br
        try clear bu
        try clear bv
        try clear bF
        try clear bG
        try clear bJ
        try clear bK
        try clear a_
        try clear bb
        try clear bf
        try clear bg
        try clear bj
        try clear bk
        try clear bo
        try clear bp
        try clear bs
        try clear bt
        try clear bw
        try clear bx
        try clear bH
        try clear bI
        try clear bL
        try clear bM
        try clear p2
        try clear p6
        obtain ⟨ar, rfl, HA, HK3, ap, aq, ai, aj, aa, ab, ae, HB⟩ := hrel
        cases gk with
        | zero => exact absurd HA.out (by simp [graftwoodlaw12_StoreMany.l0])
        | succ k3 =>
         have H := HA.out
         clear HA
         simp only [graftwoodlaw12_StoreMany.l0] at H
         by_cases c45 : ar < (al.length : Int)
         ·rw [if_pos c45] at H
          have cd : decide (ar < (al.length : Int)) = true := decide_eq_true c45
          clear c45
          by_cases c46 : 0 ≤ ar
          ·rw [if_pos c46] at H
           have dL : decide (0 ≤ ar) = true := decide_eq_true c46
           clear c46
           replace H := Option.bind_eq_some_iff.mp H
           obtain ⟨⟨bC, bD⟩, ce, H⟩ := H
           replace H : (if ar < (au.length : Int) then (if bC.toList = (rdOf ByteArray.empty au ar).toList then (if bD = 0 then (graftwoodlaw12_StoreMany.l0 k3 (wrap64 (ar + 1)) al au) else (some false)) else (some false)) else (none)) = some r := H
           have A47 := Aside0.mk ce
           clear ce
           by_cases c48 : ar < (au.length : Int)
           ·rw [if_pos c48] at H
            have dM : decide (ar < (au.length : Int)) = true := decide_eq_true c48
            clear c48
            by_cases c49 : bC.toList = (rdOf ByteArray.empty au ar).toList
            ·rw [if_pos c49] at H
             have cf : (bC.toList == (rdOf ByteArray.empty au ar).toList) = true := beq_iff_eq.mpr c49
             have cg : (bC.toList != (rdOf ByteArray.empty au ar).toList) = false := bne_eq_false_iff_eq.mpr c49
             clear c49
             by_cases c50 : bD = 0
             ·rw [if_pos c50] at H
              have ch : (bD == 0) = true := beq_iff_eq.mpr c50
              have ci : (bD != 0) = false := bne_eq_false_iff_eq.mpr c50
              clear c50
              have H' := Aside0.mk H
              clear H
              have dN := aB.out
              have dP := av.out
              have dQ := aC.out
              have dR := aw.out
              have cy : wr.cell? ⟨ac, 0, none⟩ = some (.slice aI al.length aE) := (blk_cell ae.out 0).trans rfl
              have cz : wr.cell? ⟨ac, 1, none⟩ = some (.slice aF au.length aG) := (blk_cell ae.out 1).trans rfl
              have cA := blk_frozen ae.out 0
              have cB := blk_frozen ae.out 1
              try go_wp2
              have n0_ := am (Kd.R_drew ap.out)
              have n1_ := am (Kd.R_drew aq.out)
              have n2_ := am (Kd.V_drew ai.out)
              have n3_ := am (Kd.V_drew aj.out)
              have n4_ := am (blk_drew aa.out)
              have n5_ := am (blk_drew ab.out)
              have n6_ := am (blk_drew ae.out)
              have n7_ := am (below_drew1 HB.out)
              clear ap aq ai aj aa ab ae HB
              have ap := n0_
              have aq := n1_
              have ai := n2_
              have aj := n3_
              have aa := n4_
              have ab := n5_
              have ae := n6_
              have HB := n7_
              clear n0_ n1_ n2_ n3_ n4_ n5_ n6_ n7_
              have p367 : 0 ≤ (ar : Int) := of_decide_eq_true (by first | (with_reducible assumption) | assumption)
              have q367 : ar < (al.length : Int) := of_decide_eq_true (by first | (with_reducible assumption) | assumption)
              obtain ⟨ad367, e367, bN, bO⟩ := at_T27 (Kd.V_reads' ai.out).2.2 ar p367 q367
              cases e367
              replace p367 := eq_true p367
              replace q367 := eq_true q367
              refine start_ (n := 12) (S := fun w' => w'.cell? ⟨ac, 0, none⟩ = some (.slice (some ad367) al.length aE) ∧ w'.cell? ⟨ac, 1, none⟩ = some (.slice aF au.length aG) ∧ w'.cell? (ad367.add ((ar).toNat * 2)) = some (.string ((rd_T27 al ar).f0)) ∧ w'.cell? ⟨(ad367.add ((ar).toNat * 2)).block, (ad367.add ((ar).toNat * 2)).off + 1, none⟩ = some (.string ((rd_T27 al ar).f1))) (ds := []) #[false, false, false, false, false, false, false, false, false, false, false, false] (by kernel_rfl) rfl rfl ⟨(blk_cell ae.out 0).trans rfl, (blk_cell ae.out 1).trans rfl, bN, bO⟩ (fun hHeld => ?_); refine with_tabW graftwoodlaw12_StoreMany.tab14 graftwoodlaw12_StoreMany.bits14 (fun HT_ HW_ => ?_)
              generalize wr.drew = w54 at ap aq ai aj aa ab ae HB bN bO hHeld ⊢
              refine pure_ (i := 1) (N := some 67) (v := ?_) (a' := ?_) #[false, true, false, false, false, false, false, false, false, false, false, false] rfl rfl (any_of HT_.out (by kernel_rfl)) (fun _ _ _ h => h) (Or.inl ⟨by rfl, ?_⟩) ?_ ?_
              rotate_left
              ·intro w'
               go_simp
               with_reducible rfl
              rotate_left
              ·simp only [pS]
               rfl
              refine pure_ (i := 3) (N := some 69) (v := ?_) (a' := ?_) #[false, true, false, true, false, false, false, false, false, false, false, false] rfl rfl (any_of HT_.out (by kernel_rfl)) (fun _ _ _ h => h) (Or.inl ⟨by rfl, ?_⟩) ?_ ?_
              rotate_left
              ·intro w'
               go_simp
               with_reducible rfl
              rotate_left
              ·simp only [pS]
               rfl
              refine take_ (i := 0) (N := some 66) (v := ?_) (a' := ?_) #[true, true, false, true, false, false, false, false, false, false, false, false] rfl rfl (take_ofW HT_.out HW_.out (by kernel_rfl)) (fun _ _ _ h => h) (Or.inl ⟨by rfl, ?_⟩) hHeld ?_ ?_
              rotate_left
              ·rintro w' ⟨s0, s1, s2, s3⟩
               go_simp
               with_reducible rfl
              rotate_left
              ·simp only [pS]
               rfl
              refine take_ (i := 2) (N := some 68) (v := ?_) (a' := ?_) #[true, true, true, true, false, false, false, false, false, false, false, false] rfl rfl (take_ofW HT_.out HW_.out (by kernel_rfl)) (fun _ _ _ h => h) (Or.inl ⟨by rfl, ?_⟩) hHeld ?_ ?_
              rotate_left
              ·rintro w' ⟨s0, s1, s2, s3⟩
               go_simp
               with_reducible rfl
              rotate_left
              ·simp only [pS]
               rfl
              refine pure_ (i := 4) (N := some 70) (v := ?_) (a' := ?_) #[true, true, true, true, true, false, false, false, false, false, false, false] rfl rfl (any_of HT_.out (by kernel_rfl)) (fun _ _ _ h => h) (Or.inl ⟨by rfl, ?_⟩) ?_ ?_
              rotate_left
              ·intro w'
               go_simp
               with_reducible rfl
              rotate_left
              ·simp only [pS]
               rfl
              refine take_ (i := 5) (N := some 71) (v := ?_) (a' := ?_) #[true, true, true, true, true, true, false, false, false, false, false, false] rfl rfl (take_ofW HT_.out HW_.out (by kernel_rfl)) (fun _ _ _ h => h) (Or.inl ⟨by rfl, ?_⟩) hHeld ?_ ?_
              rotate_left
              ·rintro w' ⟨s0, s1, s2, s3⟩
               go_simp
               with_reducible rfl
              rotate_left
              ·simp only [pS]
               rfl
              refine one_ (i := 6) (N := some 72) #[true, true, true, true, true, true, true, false, false, false, false, false] rfl rfl (one_of HT_.out (by kernel_rfl)) (by decide) (fun K hK => ?_)
              refine goes_ Tryd.func11 (by kernel_rfl) rfl #[.agg #[.slice (some ad367) al.length aE, .slice aF au.length aG], .agg #[.string ((rd_T27 al ar).f0), .string ((rd_T27 al ar).f1)]] (by rfl) rfl rfl (by (try simp only [List.map_toArray, List.map_cons, List.map_nil]); first | done | rfl | (simp only [List.length_drop, List.length_take]; rfl)) ?_
              with_reducible refine (store_Get.calls k3 _ _ al _ _ au ((rd_T27 al ar).f0) ((rd_T27 al ar).f1) bC bD _ ?side1 ?side2 ?side3 ?side4 A47.out).mono ?_
              (case side1 => repeat (first | exact (Kd.V_reads' ai.out).2.2 | (with_reducible refine Kd.C_alloc ?_ _) | (with_reducible refine Kd.C_drewN ?_ _) | (with_reducible refine Kd.C_drew ?_)))
              (case side2 => exact (Kd.V_reads' ai.out).2.1)
              (case side3 => repeat (first | exact (Kd.V_reads' aj.out).2.2 | (with_reducible refine Kd.C_alloc ?_ _) | (with_reducible refine Kd.C_drewN ?_ _) | (with_reducible refine Kd.C_drew ?_)))
              (case side4 => exact (Kd.V_reads' aj.out).2.1)
              rintro e w55 ⟨rfl, hb⟩
              have HS2_ := (hb.cell (World.block_lt_of_cell? _ _ (hHeld.2.2.1))).trans (hHeld.2.2.1)
              have HS3_ := (hb.cell (World.block_lt_of_cell? _ _ (hHeld.2.2.2))).trans (hHeld.2.2.2)
              refine ⟨_, rfl, ?_⟩
              have n0_ := am (rB ap.out hb)
              have n1_ := am (rB aq.out hb)
              have n2_ := am (vB ai.out hb)
              have n3_ := am (vB aj.out hb)
              have n4_ := am (bB aa.out hb)
              have n5_ := am (bB ab.out hb)
              have n6_ := am (bB ae.out hb)
              have n7_ := am (sT HB.out hb)
              clear ap aq ai aj aa ab ae HB
              have ap := n0_
              have aq := n1_
              have ai := n2_
              have aj := n3_
              have aa := n4_
              have ab := n5_
              have ae := n6_
              have HB := n7_
              clear n0_ n1_ n2_ n3_ n4_ n5_ n6_ n7_
              (try clear hb)
              (try clear hb2)
              (try clear hk)
              (try clear hi)
              refine hK.out _ _ ⟨(blk_cell ae.out 0).trans rfl, (blk_cell ae.out 1).trans rfl, HS2_, HS3_⟩ (fun hHeld => ?_)
              clear hK K
              refine norm_ (a' := ?_) ?_ ?_
              rotate_left
              ·show Act.put _ (some 72) _ = _
               simp only [pS]
               rfl
              refine pure_ (i := 7) (N := some 65) (v := ?_) (a' := ?_) #[true, true, true, true, true, true, true, true, false, false, false, false] rfl rfl (any_of HT_.out (by kernel_rfl)) (fun _ _ _ h => h) (Or.inl ⟨by rfl, ?_⟩) ?_ ?_
              rotate_left
              ·intro w'
               go_simp
               with_reducible rfl
              rotate_left
              ·simp only [pS]
               rfl
              refine pure_ (i := 8) (N := some 73) (v := ?_) (a' := ?_) #[true, true, true, true, true, true, true, true, true, false, false, false] rfl rfl (any_of HT_.out (by kernel_rfl)) (fun _ _ _ h => h) (Or.inl ⟨by rfl, ?_⟩) ?_ ?_
              rotate_left
              ·intro w'
               go_simp
               with_reducible rfl
              rotate_left
              ·simp only [pS]
               rfl
              refine pure_ (i := 9) (N := some 74) (v := ?_) (a' := ?_) #[true, true, true, true, true, true, true, true, true, true, false, false] rfl rfl (any_of HT_.out (by kernel_rfl)) (fun _ _ _ h => h) (Or.inl ⟨by rfl, ?_⟩) ?_ ?_
              rotate_left
              ·intro w'
               go_simp
               with_reducible rfl
              rotate_left
              ·simp only [pS]
               rfl
              refine pure_ (i := 10) (N := some 13) (v := ?_) (a' := ?_) #[true, true, true, true, true, true, true, true, true, true, true, false] rfl rfl (any_of HT_.out (by kernel_rfl)) (fun _ _ _ h => h) (Or.inl ⟨by rfl, ?_⟩) ?_ ?_
              rotate_left
              ·intro w'
               go_simp
               with_reducible rfl
              rotate_left
              ·simp only [pS]
               rfl
              refine pure_ (i := 11) (N := some 14) (v := ?_) (a' := ?_) #[true, true, true, true, true, true, true, true, true, true, true, true] rfl rfl (any_of HT_.out (by kernel_rfl)) (fun _ _ _ h => h) (Or.inl ⟨by rfl, ?_⟩) ?_ ?_
              rotate_left
              ·intro w'
               go_simp
               with_reducible rfl
              rotate_left
              ·simp only [pS]
               rfl
              refine done_ (done_of HT_.out (by kernel_rfl)) ?_
              have cC : w55.cell? ⟨ac, 0, none⟩ = some (.slice (some ad367) al.length aE) := (blk_cell ae.out 0).trans rfl
              have cD : w55.cell? ⟨ac, 1, none⟩ = some (.slice aF au.length aG) := (blk_cell ae.out 1).trans rfl
              have cE := blk_frozen ae.out 0
              have cF := blk_frozen ae.out 1
              have p370 : 0 ≤ (ar : Int) := of_decide_eq_true (by first | (with_reducible assumption) | assumption)
              have q370 : ar < (au.length : Int) := of_decide_eq_true (by first | (with_reducible assumption) | assumption)
              obtain ⟨ad370, e370, cG⟩ := Kd.at_string (Kd.V_reads' aj.out).2.2 ar p370 q370
              cases e370
              replace p370 := eq_true p370
              replace q370 := eq_true q370
              try go_wp2
              go_roundg k3
              case measure => have := HJ8.out; have := cc.out; have := HK3.out; omega
              case rel => exact ⟨(wrap64 (ar + 1)), (by first | rfl | (simp; done) | (simp [*]; done)), H', ⟨by have := HJ8.out; have := cc.out; have := HK3.out; omega⟩, ⟨rT ap.out⟩, ⟨rT aq.out⟩, ⟨vT ai.out⟩, ⟨vT aj.out⟩, ⟨bT aa.out⟩, ⟨bT ab.out⟩, ⟨bT ae.out⟩, ⟨eT HB.out⟩⟩
             ·rw [if_neg c50] at H
              have ch : (bD == 0) = false := beq_eq_false_iff_ne.mpr c50
              have ci : (bD != 0) = true := bne_iff_ne.mpr c50
              exact absurd ((Option.some.inj H).trans hR_) (by decide)
            ·rw [if_neg c49] at H
             have cf : (bC.toList == (rdOf ByteArray.empty au ar).toList) = false := beq_eq_false_iff_ne.mpr c49
             have cg : (bC.toList != (rdOf ByteArray.empty au ar).toList) = true := bne_iff_ne.mpr c49
             exact absurd ((Option.some.inj H).trans hR_) (by decide)
           ·rw [if_neg c48] at H
            exact absurd H (by simp)
          ·rw [if_neg c46] at H
           exact absurd H (by simp)
         ·rw [if_neg c45] at H
          have cd : decide (ar < (al.length : Int)) = false := decide_eq_false c45
          clear c45
          replace H := Option.bind_eq_some_iff.mp H
          obtain ⟨bV, cj, H⟩ := H
          replace H : (some bV) = some r := H
          have A69 := Aside0.mk cj
          clear cj
          obtain rfl := Option.some.inj H
          have dS := aB.out
          have dT := av.out
          have dU := aC.out
          have dV := aw.out
          have cH : wr.cell? ⟨ac, 0, none⟩ = some (.slice aI al.length aE) := (blk_cell ae.out 0).trans rfl
          have cI : wr.cell? ⟨ac, 1, none⟩ = some (.slice aF au.length aG) := (blk_cell ae.out 1).trans rfl
          have cJ := blk_frozen ae.out 0
          have cK := blk_frozen ae.out 1
          go_wp2_with (first | ((with_reducible refine gate_callee (f := 10) rfl ?_); refine goesL_ (some 86) rfl rfl Tryd.func10 (by kernel_rfl) rfl #[] rfl (by (try simp only [List.map_toArray, List.map_cons, List.map_nil]); first | done | rfl | (simp only [List.length_drop, List.length_take]; rfl)) ?_; (with_reducible refine (graftwoodlaw12_awake.calls k3  bV _ A69.out (by first | exact hR_ | assumption)).mono ?_); rintro e w73 ⟨rfl, hb⟩; refine ⟨_, rfl, ?_⟩; replace ap := am (rB ap.out hb); replace aq := am (rB aq.out hb); replace ai := am (vB ai.out hb); replace aj := am (vB aj.out hb); replace aa := am (bB aa.out hb); replace ab := am (bB ab.out hb); replace ae := am (bB ae.out hb); replace HB := am (sT HB.out hb); (try clear hb); (try clear hb2); (try clear hk); (try clear hi)))
          go_ret
          exact ⟨by first | rfl | (simp [errW_none, errW_some] <;> rfl) | (simp [*, errW_none, errW_some] <;> rfl), eT HB.out⟩
 ·rw [if_neg c8] at H
  have bW : (bA == 0) = false := beq_eq_false_iff_ne.mpr c8
  have bX : (bA != 0) = true := bne_iff_ne.mpr c8
  by_cases c74 : aQ = 1
  ·rw [if_pos c74] at H
   have ck : (aQ == 1) = true := beq_iff_eq.mpr c74
   have cl : (aQ != 1) = false := bne_eq_false_iff_eq.mpr c74
   clear c74
   replace H := Option.bind_eq_some_iff.mp H
   obtain ⟨aR, cm, H⟩ := H
   replace H : (some aR) = some r := H
   have A75 := Aside0.mk cm
   clear cm
   obtain rfl := Option.some.inj H
   go_enter Tryd.func4, Tryd.ntmps4
   try go_wp2_with (first | ((with_reducible refine gate_dst (N := 3) rfl ?_); (try (refine gate_guard (by rfl) ?_; dsimp only)); refine box_event ?hg (N := 3) ?hd (cs := #[.slice aU l0_0.length aV, .slice aO l0_1.length aP]) (t := 25) ?hr ?_; (case hd => rfl); (case hg => rfl); (case hr => first | (go_simp; done) | (go_simp; rfl)); intro af hg w76 hbox hb; have aa := am (hbox); have b5 := am ((gT hg HB.out)); have b6 := am ((gT hg HB.out)); replace HB := am (sT HB.out hb); clear hb hbox hg) | ((with_reducible refine gate_dst (N := 4) rfl ?_); (try (refine gate_guard (by rfl) ?_; dsimp only)); refine box_event ?hg (N := 4) ?hd (cs := #[.string a1_0, .string a1_1]) (t := 27) ?hr ?_; (case hd => rfl); (case hg => rfl); (case hr => first | (go_simp; done) | (go_simp; rfl)); intro ad hg w77 hbox hb; have ab := am (hbox); have b7 := am ((gT hg HB.out)); have b8 := am ((gT hg HB.out)); have an := am ((nT aa.out hg)); have ao := am ((mT aa.out hg)); replace aa := am (bB aa.out hb); replace HB := am (sT HB.out hb); clear hb hbox hg))
   have n0_ := am (blk_drew aa.out)
   have n1_ := am (blk_drew ab.out)
   have n2_ := am (below_drew1 HB.out)
   clear aa ab HB
   have aa := n0_
   have ab := n1_
   have HB := n2_
   clear n0_ n1_ n2_
   refine start_ (n := 6) (S := fun w' => w'.cell? ⟨af, 0, none⟩ = some (.slice aU l0_0.length aV) ∧ w'.cell? ⟨af, 1, none⟩ = some (.slice aO l0_1.length aP) ∧ w'.cell? ⟨ad, 0, none⟩ = some (.string a1_0) ∧ w'.cell? ⟨ad, 1, none⟩ = some (.string a1_1)) (ds := [4, 5]) #[false, false, false, false, false, false] (by kernel_rfl) rfl rfl ⟨(blk_cell aa.out 0).trans rfl, (blk_cell aa.out 1).trans rfl, (blk_cell ab.out 0).trans rfl, (blk_cell ab.out 1).trans rfl⟩ (fun hHeld => ?_)
   generalize w77.drew = w78 at aa ab HB hHeld ⊢
   refine take_ (i := 0) (N := some 15) (v := ?_) (a' := ?_) #[true, false, false, false, false, false] rfl rfl (by kernel_rfl) (fun _ _ _ h => h) (Or.inl ⟨by rfl, ?_⟩) hHeld ?_ ?_
   rotate_left
   ·rintro w' ⟨s0, s1, s2, s3⟩
    go_simp
    with_reducible rfl
   rotate_left
   ·simp only [pS]
    rfl
   refine take_ (i := 2) (N := some 17) (v := ?_) (a' := ?_) #[true, false, true, false, false, false] rfl rfl (by kernel_rfl) (fun _ _ _ h => h) (Or.inl ⟨by rfl, ?_⟩) hHeld ?_ ?_
   rotate_left
   ·rintro w' ⟨s0, s1, s2, s3⟩
    go_simp
    with_reducible rfl
   rotate_left
   ·simp only [pS]
    rfl
   refine one_ (i := 1) (N := some 16) #[true, true, true, false, false, false] rfl rfl (by kernel_rfl) (by decide) (fun K hK => ?_)
   refine goes_ Tryd.func7 (by kernel_rfl) rfl #[.agg #[.slice aU l0_0.length aV, .slice aO l0_1.length aP]] (by rfl) rfl rfl (by (try simp only [List.map_toArray, List.map_cons, List.map_nil]); first | done | rfl | (simp only [List.length_drop, List.length_take]; rfl)) ?_
   with_reducible refine (graftwoodlaw12_Few.calls k _ _ l0_0 _ _ l0_1 ak ax _ ?side1 ?side2 ?side3 ?side4 A4.out).mono ?_
   (case side1 => repeat (first | exact (Kd.C_below bZ.out HB.out) | (with_reducible refine Kd.C_alloc ?_ _) | (with_reducible refine Kd.C_drewN ?_ _) | (with_reducible refine Kd.C_drew ?_)))
   (case side2 => exact b0.out)
   (case side3 => repeat (first | exact (Kd.C_below b1.out HB.out) | (with_reducible refine Kd.C_alloc ?_ _) | (with_reducible refine Kd.C_drewN ?_ _) | (with_reducible refine Kd.C_drew ?_)))
   (case side4 => exact b2.out)
   rintro e w79 ⟨dj, dk, rfl, ho0, ho1, hb⟩
   refine ⟨_, rfl, ?_⟩
   have n0_ := am (Kd.R_lower (Kd.R_newB ho0 (g := ad) (o := .cells #[.string a1_0, .string a1_1] 27 (0, 0)) (bT ab.out)) (below_size (eT HB.out)))
   have n1_ := am (Kd.R_lower ho1 (below_size (eT HB.out)))
   have n2_ := am (bB aa.out hb)
   have n3_ := am (bB ab.out hb)
   have n4_ := am (sT HB.out hb)
   clear aa ab HB
   have ag := n0_
   have ah := n1_
   have aa := n2_
   have ab := n3_
   have HB := n4_
   clear n0_ n1_ n2_ n3_ n4_
   (try clear hb)
   (try clear hb2)
   (try clear hk)
   (try clear hi)
   (try clear ho0)
   (try clear ho1)
   refine hK.out _ _ ⟨(blk_cell aa.out 0).trans rfl, (blk_cell aa.out 1).trans rfl, (blk_cell ab.out 0).trans rfl, (blk_cell ab.out 1).trans rfl⟩ (fun hHeld => ?_)
   clear hK K
   refine norm_ (a' := ?_) ?_ ?_
   rotate_left
   ·show Act.put _ (some 16) _ = _
    simp only [pS]
    rfl
   refine one_ (i := 3) (N := some 18) #[true, true, true, true, false, false] rfl rfl (by kernel_rfl) (by decide) (fun K hK => ?_)
   refine goes_ Tryd.func8 (by kernel_rfl) rfl #[.agg #[.string a1_0, .string a1_1]] (by rfl) rfl rfl (by (try simp only [List.map_toArray, List.map_cons, List.map_nil]); first | done | rfl | (simp only [List.length_drop, List.length_take]; rfl)) ?_
   with_reducible refine (graftwoodlaw05_One.calls a1_0 a1_1 ay az _ A5.out).mono ?_
   rintro e w80 ⟨rfl, hb⟩
   refine ⟨_, rfl, ?_⟩
   have n0_ := am (rB ag.out hb)
   have n1_ := am (rB ah.out hb)
   have n2_ := am (bB aa.out hb)
   have n3_ := am (bB ab.out hb)
   have n4_ := am (sT HB.out hb)
   clear ag ah aa ab HB
   have ag := n0_
   have ah := n1_
   have aa := n2_
   have ab := n3_
   have HB := n4_
   clear n0_ n1_ n2_ n3_ n4_
   (try clear hb)
   (try clear hb2)
   (try clear hk)
   (try clear hi)
   obtain ⟨aY, aX, cn⟩ := Kd.R_slice ag.out
   (first | subst cn | (injection cn with f1_ f2_ f3_; have f4_ := f1_.symm; have f5_ := f3_.symm; clear f1_ f2_ f3_; subst f4_; subst f5_))
   obtain ⟨a6, aZ, co⟩ := Kd.R_slice ah.out
   (first | subst co | (injection co with f1_ f2_ f3_; have f4_ := f1_.symm; have f5_ := f3_.symm; clear f1_ f2_ f3_; subst f4_; subst f5_))
   refine hK.out _ _ ⟨(blk_cell aa.out 0).trans rfl, (blk_cell aa.out 1).trans rfl, (blk_cell ab.out 0).trans rfl, (blk_cell ab.out 1).trans rfl⟩ (fun hHeld => ?_)
   clear hK K
   refine norm_ (a' := ?_) ?_ ?_
   rotate_left
   ·show Act.put _ (some 18) _ = _
    simp only [pS]
    rfl
   refine last_ (i := 4) (N := none) #[true, true, true, true, true, false] rfl rfl (by kernel_rfl) (by decide) (fun K hK => ?_)
   have d_ : w80.cell? ⟨af, 0, none⟩ = some (.slice aU l0_0.length aV) := (blk_cell aa.out 0).trans rfl
   have dW := blk_frozen aa.out 0
   have cL := ao.out
   have cM := an.out
   have ea : w80.cell? ⟨af, 1, none⟩ = some (.slice aO l0_1.length aP) := (blk_cell aa.out 1).trans rfl
   have dX := blk_frozen aa.out 1
   have cN := ao.out
   have cO := an.out
   refine skip_ (w1 := ?_) (by rfl) rfl ?_ ?_
   rotate_left
   ·go_simp
    rfl
   refine hK.out _ _ ?_
   clear hK K
   refine last_ (i := 5) (N := none) #[true, true, true, true, true, true] rfl rfl (by kernel_rfl) (by decide) (fun K hK => ?_)
   have eb : w80.cell? ⟨ad, 0, none⟩ = some (.string a1_0) := (blk_cell ab.out 0).trans rfl
   have dY := blk_frozen ab.out 0
   have cP := an.out
   have cQ := ao.out
   have ec : w80.cell? ⟨ad, 1, none⟩ = some (.string a1_1) := (blk_cell ab.out 1).trans rfl
   have dZ := blk_frozen ab.out 1
   have cR := an.out
   have cS := ao.out
   refine skip_ (w1 := ?_) (by rfl) rfl ?_ ?_
   rotate_left
   ·go_simp
    rfl
   refine hK.out _ _ ?_
   clear hK K
   refine done_ (by kernel_rfl) ?_
   have d0 := an.out
   have d1 := ao.out
   have cT : w80.cell? ⟨af, 0, none⟩ = some (.slice aU l0_0.length aV) := (blk_cell aa.out 0).trans rfl
   have cU : w80.cell? ⟨af, 1, none⟩ = some (.slice aO l0_1.length aP) := (blk_cell aa.out 1).trans rfl
   have cV := blk_frozen aa.out 0
   have cW := blk_frozen aa.out 1
   have cX : w80.cell? ⟨ad, 0, none⟩ = some (.string a1_0) := (blk_cell ab.out 0).trans rfl
   have cY : w80.cell? ⟨ad, 1, none⟩ = some (.string a1_1) := (blk_cell ab.out 1).trans rfl
   have cZ := blk_frozen ab.out 0
   have c0 := blk_frozen ab.out 1
   try go_wp2_with (first | ((with_reducible refine gate_callee (f := 11) rfl ?_); refine goesL_ (some 22) rfl rfl Tryd.func11 (by kernel_rfl) rfl #[.agg #[.slice aY ak.length aX, .slice a6 ax.length aZ], .agg #[.string ay, .string az]] rfl (by (try simp only [List.map_toArray, List.map_cons, List.map_nil]); first | done | rfl | (simp only [List.length_drop, List.length_take]; rfl)) ?_; (with_reducible refine (store_Get.calls k _ _ ak _ _ ax ay az b4 aQ _ ?side1 ?side2 ?side3 ?side4 A6.out).mono ?_); (case side1 => refine (Kd.R_reads' (e := 27) (base := w.heap.size) (ok := fun k_ => (True ∧ k_ ≠ ad)) (n := ak.length) (c := aX) ?_).2.2; exact (by (with_reducible repeat (first | apply Kd.R_alloc | apply Kd.R_drewN | apply Kd.R_drew)); exact (Kd.R_mono (Kd.R_mono (Kd.R_far (p := ⟨ad, 1, none⟩) (Kd.R_far (p := ⟨ad, 0, none⟩) (Kd.R_far (p := ⟨af, 1, none⟩) (Kd.R_far (p := ⟨af, 0, none⟩) (Kd.R_mono (Kd.R_types ag.out aa.out (by decide)) (fun k_ hk => (⟨hk, hk.1.2⟩ : _ ∧ k_ ≠ ad))) (fun _ hk => hk.1.2) (.slice aY ak.length aX)) (fun _ hk => hk.1.2) (.slice a6 ax.length aZ)) (fun _ hk => hk.2) (.string ay)) (fun _ hk => hk.2) (.string az)) (fun _ h_ => h_.1)) (fun _ h_ => h_.1)))); (case side2 => exact (Kd.R_reads' ag.out).2.1); (case side3 => refine (Kd.R_reads' (e := 9) (base := w.heap.size) (ok := fun k_ => True) (n := ax.length) (c := aZ) ?_).2.2; exact (by (with_reducible repeat (first | apply Kd.R_alloc | apply Kd.R_drewN | apply Kd.R_drew)); exact (Kd.R_mono (Kd.R_mono (Kd.R_far (p := ⟨ad, 1, none⟩) (Kd.R_far (p := ⟨ad, 0, none⟩) (Kd.R_far (p := ⟨af, 1, none⟩) (Kd.R_far (p := ⟨af, 0, none⟩) (Kd.R_types (Kd.R_types ah.out aa.out (by decide)) ab.out (by decide)) (fun _ hk => hk.1.2) (.slice aY ak.length aX)) (fun _ hk => hk.1.2) (.slice a6 ax.length aZ)) (fun _ hk => hk.2) (.string ay)) (fun _ hk => hk.2) (.string az)) (fun _ h_ => h_.1)) (fun _ h_ => h_.1)))); (case side4 => exact (Kd.R_reads' ah.out).2.1); rintro e w90 ⟨rfl, hb⟩; refine ⟨_, rfl, ?_⟩; replace ag := am (Kd.R_below (by (with_reducible repeat (first | apply Kd.R_alloc | apply Kd.R_drewN | apply Kd.R_drew)); exact (Kd.R_mono (Kd.R_mono (Kd.R_far (p := ⟨ad, 1, none⟩) (Kd.R_far (p := ⟨ad, 0, none⟩) (Kd.R_far (p := ⟨af, 1, none⟩) (Kd.R_far (p := ⟨af, 0, none⟩) (Kd.R_mono (Kd.R_types ag.out aa.out (by decide)) (fun k_ hk => (⟨hk, hk.1.2⟩ : _ ∧ k_ ≠ ad))) (fun _ hk => hk.1.2) (.slice aY ak.length aX)) (fun _ hk => hk.1.2) (.slice a6 ax.length aZ)) (fun _ hk => hk.2) (.string ay)) (fun _ hk => hk.2) (.string az)) (fun _ h_ => h_.1)) (fun _ h_ => h_.1))) hb); replace ah := am (Kd.R_below (by (with_reducible repeat (first | apply Kd.R_alloc | apply Kd.R_drewN | apply Kd.R_drew)); exact (Kd.R_mono (Kd.R_mono (Kd.R_far (p := ⟨ad, 1, none⟩) (Kd.R_far (p := ⟨ad, 0, none⟩) (Kd.R_far (p := ⟨af, 1, none⟩) (Kd.R_far (p := ⟨af, 0, none⟩) (Kd.R_types (Kd.R_types ah.out aa.out (by decide)) ab.out (by decide)) (fun _ hk => hk.1.2) (.slice aY ak.length aX)) (fun _ hk => hk.1.2) (.slice a6 ax.length aZ)) (fun _ hk => hk.2) (.string ay)) (fun _ hk => hk.2) (.string az)) (fun _ h_ => h_.1)) (fun _ h_ => h_.1))) hb); replace HB := am (below_step (by repeat (first | (with_reducible first | exact HB.out | apply pA | apply pN | apply pD | refine eU ?_ (by assumption)) | exact HB.out)) hb); replace aa := am (blk_below (g := af) (o := .cells #[.slice aY ak.length aX, .slice a6 ax.length aZ] 25 (0, 0)) (by (with_reducible repeat (first | apply bn | apply bd | apply ba)); refine blk_far ?_ an.out _; (with_reducible repeat (first | apply bn | apply bd | apply ba)); refine blk_far ?_ an.out _; (with_reducible repeat (first | apply bn | apply bd | apply ba)); refine blk_put (cs := #[.slice aY ak.length aX, .slice aO l0_1.length aP]) ?_ 1 _ rfl; (with_reducible repeat (first | apply bn | apply bd | apply ba)); refine blk_put (cs := #[.slice aU l0_0.length aV, .slice aO l0_1.length aP]) ?_ 0 _ rfl; exact bT aa.out) hb); replace ab := am (blk_below (g := ad) (o := .cells #[.string ay, .string az] 27 (0, 0)) (by (with_reducible repeat (first | apply bn | apply bd | apply ba)); refine blk_put (cs := #[.string ay, .string a1_1]) ?_ 1 _ rfl; (with_reducible repeat (first | apply bn | apply bd | apply ba)); refine blk_put (cs := #[.string a1_0, .string a1_1]) ?_ 0 _ rfl; (with_reducible repeat (first | apply bn | apply bd | apply ba)); refine blk_far ?_ ao.out _; (with_reducible repeat (first | apply bn | apply bd | apply ba)); refine blk_far ?_ ao.out _; exact bT ab.out) hb); (try clear hb); (try clear hb2); (try clear hk); (try clear hi); have c5 : w90.cell? ⟨af, 0, none⟩ = some (.slice aY ak.length aX) := (blk_cell aa.out 0).trans rfl; have c6 : w90.cell? ⟨af, 1, none⟩ = some (.slice a6 ax.length aZ) := (blk_cell aa.out 1).trans rfl; have c_ := blk_frozen aa.out 0; have da := blk_frozen aa.out 1; have db : w90.cell? ⟨ad, 0, none⟩ = some (.string ay) := (blk_cell ab.out 0).trans rfl; have dc : w90.cell? ⟨ad, 1, none⟩ = some (.string az) := (blk_cell ab.out 1).trans rfl; have dd := blk_frozen ab.out 0; have de := blk_frozen ab.out 1) | ((with_reducible refine gate_callee (f := 9) rfl ?_); refine goesL_ (some 29) rfl rfl Tryd.func9 (by kernel_rfl) rfl #[.agg #[.slice aY ak.length aX, .slice a6 ax.length aZ], .agg #[.string ay, .string az], .string a2] rfl (by (try simp only [List.map_toArray, List.map_cons, List.map_nil]); first | done | rfl | (simp only [List.length_drop, List.length_take]; rfl)) ?_; (with_reducible refine (store_Put.calls k (fun k_ => some k_ = (.slice aY ak.length aX : Value).ownBlock) _ _ ak (fun k_ => some k_ = (.slice a6 ax.length aZ : Value).ownBlock) _ _ ax ay az a2 al au bA _ ?side1 ?side2 A7.out).mono ?_); (case side1 => exact Kd.R_V (Kd.R_tight rfl (Kd.R_types (Kd.R_apart' (ag.out) (Kd.R_typed ah.out) (by decide)) aa.out (by decide)))); (case side2 => exact Kd.R_V (Kd.R_tight rfl (Kd.R_types (Kd.R_types (Kd.R_apart' (ah.out) (Kd.R_typed ag.out) (by decide)) aa.out (by decide)) ab.out (by decide)))); rintro e w93 ⟨dl, dm, rfl, ho0, ho1, hb⟩; refine ⟨_, rfl, ?_⟩; have aM := am (Kd.V_lower (Kd.V_mono (ok' := fun k_ => k_ ≠ af ∧ k_ ≠ ad) ho0 (fun k_ hk_ => ⟨Or.elim hk_ (fun hs_ => Or.elim hs_ (fun hs_ => ((Kd.R_types (Kd.R_apart' (ag.out) (Kd.R_typed ah.out) (by decide)) aa.out (by decide)).1 k_ hs_.symm).2) (fun hs_ => ((Kd.R_types (Kd.R_types (Kd.R_apart' (ah.out) (Kd.R_typed ag.out) (by decide)) aa.out (by decide)) ab.out (by decide)).1 k_ hs_.symm).1.2)) (fun hn_ => (Kd.freshB (g := af) (o := .cells #[.slice aY ak.length aX, .slice a6 ax.length aZ] 25 (0, 0)) (bT aa.out) k_ hn_)), Or.elim hk_ (fun hs_ => Or.elim hs_ (fun hs_ => ((Kd.R_types (Kd.R_apart' (ag.out) (Kd.R_typed ah.out) (by decide)) aa.out (by decide)).1 k_ hs_.symm).1.1.2) (fun hs_ => ((Kd.R_types (Kd.R_types (Kd.R_apart' (ah.out) (Kd.R_typed ag.out) (by decide)) aa.out (by decide)) ab.out (by decide)).1 k_ hs_.symm).2)) (fun hn_ => (Kd.freshB (g := ad) (o := .cells #[.string ay, .string az] 27 (0, 0)) (bT ab.out) k_ hn_))⟩)) (below_size (by repeat (first | (with_reducible first | exact HB.out | apply pA | apply pN | apply pD | refine eU ?_ (by assumption)) | exact HB.out)))); have aN := am (Kd.V_lower (Kd.V_mono (ok' := fun k_ => k_ ≠ af ∧ k_ ≠ ad) ho1 (fun k_ hk_ => ⟨Or.elim hk_ (fun hs_ => Or.elim hs_ (fun hs_ => ((Kd.R_types (Kd.R_apart' (ag.out) (Kd.R_typed ah.out) (by decide)) aa.out (by decide)).1 k_ hs_.symm).2) (fun hs_ => ((Kd.R_types (Kd.R_types (Kd.R_apart' (ah.out) (Kd.R_typed ag.out) (by decide)) aa.out (by decide)) ab.out (by decide)).1 k_ hs_.symm).1.2)) (fun hn_ => (Kd.freshB (g := af) (o := .cells #[.slice aY ak.length aX, .slice a6 ax.length aZ] 25 (0, 0)) (bT aa.out) k_ hn_)), Or.elim hk_ (fun hs_ => Or.elim hs_ (fun hs_ => ((Kd.R_types (Kd.R_apart' (ag.out) (Kd.R_typed ah.out) (by decide)) aa.out (by decide)).1 k_ hs_.symm).1.1.2) (fun hs_ => ((Kd.R_types (Kd.R_types (Kd.R_apart' (ah.out) (Kd.R_typed ag.out) (by decide)) aa.out (by decide)) ab.out (by decide)).1 k_ hs_.symm).2)) (fun hn_ => (Kd.freshB (g := ad) (o := .cells #[.string ay, .string az] 27 (0, 0)) (bT ab.out) k_ hn_))⟩)) (below_size (by repeat (first | (with_reducible first | exact HB.out | apply pA | apply pN | apply pD | refine eU ?_ (by assumption)) | exact HB.out)))); replace ag := am (rB ag.out hb); replace ah := am (rB ah.out hb); replace aa := am (bB aa.out hb); replace ab := am (bB ab.out hb); replace HB := am (below_step (by repeat (first | (with_reducible first | exact HB.out | apply pA | apply pN | apply pD | refine eU ?_ (by assumption)) | exact HB.out)) hb); (try clear hb); (try clear hb2); (try clear hk); (try clear hi); (try clear ho0); (try clear ho1)) | ((with_reducible refine gate_dst (N := 9) rfl ?_); (try (refine gate_guard (by rfl) ?_; dsimp only)); refine box_event ?hg (N := 9) ?hd (cs := #[.slice none 0 0, .slice none 0 0]) (t := 25) ?hr ?_; (case hd => rfl); (case hg => rfl); (case hr => first | (go_simp; done) | (go_simp; rfl)); intro ac hg w94 hbox hb; replace ag := am (rB ag.out hb); replace ah := am (rB ah.out hb); replace aM := am (Kd.V_below (Kd.V_elderB (vT aM.out) ac (Nat.le_of_eq hg.symm)) hb); replace aN := am (Kd.V_below (Kd.V_elderB (vT aN.out) ac (Nat.le_of_eq hg.symm)) hb); have ae := am (hbox); have ca := am ((by rw [hg]; exact (below_size (by repeat (first | (with_reducible first | exact HB.out | apply pA | apply pN | apply pD | refine eU ?_ (by assumption)) | exact HB.out))) : w.heap.size ≤ ac)); have cb := am ((by rw [hg]; exact (below_size (by repeat (first | (with_reducible first | exact HB.out | apply pA | apply pN | apply pD | refine eU ?_ (by assumption)) | exact HB.out))) : w.heap.size ≤ ac)); have av := am ((nT aa.out hg)); have aB := am ((mT aa.out hg)); have aw := am ((nT ab.out hg)); have aC := am ((mT ab.out hg)); replace aa := am (bB aa.out hb); replace ab := am (bB ab.out hb); replace HB := am (below_step (by repeat (first | (with_reducible first | exact HB.out | apply pA | apply pN | apply pD | refine eU ?_ (by assumption)) | exact HB.out)) hb); clear hb hbox hg; obtain ⟨bP, bQ, dq⟩ := Kd.V_slice aM.out; subst dq; have d2 := aB.out; have d3 := av.out; have d4 := aC.out; have d5 := aw.out; have df : w94.cell? ⟨ac, 0, none⟩ = some (.slice none 0 0) := (blk_cell ae.out 0).trans rfl; have dg : w94.cell? ⟨ac, 1, none⟩ = some (.slice none 0 0) := (blk_cell ae.out 1).trans rfl; have dh := blk_frozen ae.out 0; have di := blk_frozen ae.out 1; obtain ⟨bS, bU, dr⟩ := Kd.V_slice aN.out; subst dr) | (go_at_call 10; (with_reducible refine (graftwoodlaw12_awake.calls k  aR _ A75.out (by first | exact hR_ | assumption)).mono ?_); rintro e ed ⟨rfl, hb⟩; replace ag := am (Kd.R_below (by (with_reducible repeat (first | apply Kd.R_alloc | apply Kd.R_drewN | apply Kd.R_drew)); exact (Kd.R_mono (Kd.R_far (p := ⟨ac, 1, none⟩) (Kd.R_far (p := ⟨ac, 0, none⟩) (Kd.R_types ag.out ae.out (by decide)) (fun _ hk => hk.2) (.slice bP al.length bQ)) (fun _ hk => hk.2) (.slice bS au.length bU)) (fun _ h_ => h_.1))) hb); replace ah := am (Kd.R_below (by (with_reducible repeat (first | apply Kd.R_alloc | apply Kd.R_drewN | apply Kd.R_drew)); exact (Kd.R_mono (Kd.R_far (p := ⟨ac, 1, none⟩) (Kd.R_far (p := ⟨ac, 0, none⟩) (Kd.R_types ah.out ae.out (by decide)) (fun _ hk => hk.2) (.slice bP al.length bQ)) (fun _ hk => hk.2) (.slice bS au.length bU)) (fun _ h_ => h_.1))) hb); replace aM := am (Kd.V_below (by (with_reducible repeat (first | apply Kd.V_alloc | apply Kd.V_drewN | apply Kd.V_drew)); exact (Kd.V_mono (Kd.V_far (p := ⟨ac, 1, none⟩) (Kd.V_far (p := ⟨ac, 0, none⟩) (Kd.V_mono aM.out (fun k_ hk => (⟨hk, hk.2⟩ : _ ∧ k_ ≠ ac))) (fun _ hk => hk.2) (.slice bP al.length bQ)) (fun _ hk => hk.2) (.slice bS au.length bU)) (fun _ h_ => h_.1))) hb); replace aN := am (Kd.V_below (by (with_reducible repeat (first | apply Kd.V_alloc | apply Kd.V_drewN | apply Kd.V_drew)); exact (Kd.V_mono (Kd.V_far (p := ⟨ac, 1, none⟩) (Kd.V_far (p := ⟨ac, 0, none⟩) (Kd.V_mono aN.out (fun k_ hk => (⟨hk, hk.2⟩ : _ ∧ k_ ≠ ac))) (fun _ hk => hk.2) (.slice bP al.length bQ)) (fun _ hk => hk.2) (.slice bS au.length bU)) (fun _ h_ => h_.1))) hb); replace aa := am (blk_below (g := af) (o := .cells #[.slice aY ak.length aX, .slice a6 ax.length aZ] 25 (0, 0)) (by (with_reducible repeat (first | apply bn | apply bd | apply ba)); refine blk_far ?_ av.out _; (with_reducible repeat (first | apply bn | apply bd | apply ba)); refine blk_far ?_ av.out _; exact bT aa.out) hb); replace ab := am (blk_below (g := ad) (o := .cells #[.string ay, .string az] 27 (0, 0)) (by (with_reducible repeat (first | apply bn | apply bd | apply ba)); refine blk_far ?_ aw.out _; (with_reducible repeat (first | apply bn | apply bd | apply ba)); refine blk_far ?_ aw.out _; exact bT ab.out) hb); replace HB := am (below_step (by repeat (first | (with_reducible first | exact HB.out | apply pA | apply pN | apply pD | refine eU ?_ (by assumption)) | exact HB.out)) hb); replace ae := am (blk_below (g := ac) (o := .cells #[.slice bP al.length bQ, .slice bS au.length bU] 25 (0, 0)) (by (with_reducible repeat (first | apply bn | apply bd | apply ba)); refine blk_put (cs := #[.slice bP al.length bQ, .slice none 0 0]) ?_ 1 _ rfl; (with_reducible repeat (first | apply bn | apply bd | apply ba)); refine blk_put (cs := #[.slice none 0 0, .slice none 0 0]) ?_ 0 _ rfl; exact bT ae.out) hb); (try clear hb); (try clear hb2); (try clear hk); (try clear hi)))
   go_ret
   exact ⟨by first | rfl | (simp [errW_none, errW_some] <;> rfl) | (simp [*, errW_none, errW_some] <;> rfl), eT HB.out⟩
  ·rw [if_neg c74] at H
   have ck : (aQ == 1) = false := beq_eq_false_iff_ne.mpr c74
   have cl : (aQ != 1) = true := bne_iff_ne.mpr c74
   exact absurd ((Option.some.inj H).trans hR_) (by decide)
end Go.Proofs.YtomjppafgalaoaaDoor.P
