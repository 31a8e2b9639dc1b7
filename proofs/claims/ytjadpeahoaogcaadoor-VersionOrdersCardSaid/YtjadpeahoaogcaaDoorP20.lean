-- Written by this project's own program (wip/tools/hp.py), driving the kit's print; hand texts among it. Not trusted: Lean checks it.
-- half the indentation
import Derived.Test.YtjadpeahoaogcaaDoorP0
import Derived.Test.YtjadpeahoaogcaaDoorP18
import Derived.Test.YtjadpeahoaogcaaDoorP19
namespace Go.Proofs.YtjadpeahoaogcaaDoor.P
open Go.RowKit Go.Proofs.YtjadpeahoaogcaaDoorW.PrintWords Go.Proofs.YtjadpeahoaogcaaDoorW.PrintLast Go.Proofs.YtjadpeahoaogcaaDoorW.PrintMore
attribute [local go_sem] max2_int min2_int max_two min_two max_three min_three max_four min_four   -- for this text's walks alone
set_option linter.unusedVariables false
set_option linter.unusedSimpArgs false

/-! ### graftwoodref03_Cmp: function 15 -/
mutual
def graftwoodref03_Cmp.j0 : Nat → Int → Int → Bool → ByteArray → ByteArray → ByteArray → List ByteArray → ByteArray → ByteArray → ByteArray → List ByteArray → Option (Int)
 | 0, _, _, _, _, _, _, _, _, _, _, _ => none
 | k + 1, x12, x13, x61, x291000, x291001, x291002, x291003, x299000, x299001, x299002, x299003 => if x61 = true then (some 0) else (if x12 = 0 then (some 1) else (if x13 = 0 then (some (-1)) else (graftwoodref03_Cmp.l0 k x12 x13 0 x291000 x291001 x291002 x291003 x299000 x299001 x299002 x299003)))
def graftwoodref03_Cmp.l0 : Nat → Int → Int → Int → ByteArray → ByteArray → ByteArray → List ByteArray → ByteArray → ByteArray → ByteArray → List ByteArray → Option (Int)
 | 0, _, _, _, _, _, _, _, _, _, _, _ => none
 | k + 1, x12, x13, x14, x291000, x291001, x291002, x291003, x299000, x299001, x299002, x299003 => if x14 < x12 then (graftwoodref03_Cmp.j2 k x12 x13 x14 (decide (x14 < x13)) x291000 x291001 x291002 x291003 x299000 x299001 x299002 x299003) else (graftwoodref03_Cmp.j2 k x12 x13 x14 false x291000 x291001 x291002 x291003 x299000 x299001 x299002 x299003)
def graftwoodref03_Cmp.j2 : Nat → Int → Int → Int → Bool → ByteArray → ByteArray → ByteArray → List ByteArray → ByteArray → ByteArray → ByteArray → List ByteArray → Option (Int)
 | 0, _, _, _, _, _, _, _, _, _, _, _, _ => none
 | k + 1, x12, x13, x14, x73, x291000, x291001, x291002, x291003, x299000, x299001, x299002, x299003 => if x73 = true then (if 0 ≤ x14 then (if x14 < (x291003.length : Int) then (if x14 < (x299003.length : Int) then ((graftwoodref03_words.f k (rdOf ByteArray.empty x291003 x14) (rdOf ByteArray.empty x299003 x14)).bind fun t304 => (if t304 = 0 then (graftwoodref03_Cmp.l0 k x12 x13 (wrap64 (x14 + 1)) x291000 x291001 x291002 x291003 x299000 x299001 x299002 x299003) else (some t304))) else (none)) else (none)) else (none)) else (if x12 < x13 then (some (-1)) else (if x12 > x13 then (some 1) else (some 0)))
end
def graftwoodref03_Cmp.f (k : Nat) (a0 : ByteArray) (a1 : ByteArray) : Option (Int) := (graftwoodref03_Split.f k a0).bind fun bt283 => ((graftwoodref03_Split.f k a1).bind fun bt291 => ((graftwoodref02_Cmp.f k bt283.1 bt291.1).bind fun t299 => (if t299 = 0 then ((graftwoodref02_Cmp.f k bt283.2.1 bt291.2.1).bind fun t300 => (if t300 = 0 then ((graftwoodref02_Cmp.f k bt283.2.2.1 bt291.2.2.1).bind fun t301 => (if t301 = 0 then (if (bt283.2.2.2.1.length : Int) = 0 then (graftwoodref03_Cmp.j0 k (bt283.2.2.2.1.length : Int) (bt291.2.2.2.1.length : Int) ((bt291.2.2.2.1.length : Int) == 0) bt283.1 bt283.2.1 bt283.2.2.1 bt283.2.2.2.1 bt291.1 bt291.2.1 bt291.2.2.1 bt291.2.2.2.1) else (graftwoodref03_Cmp.j0 k (bt283.2.2.2.1.length : Int) (bt291.2.2.2.1.length : Int) false bt283.1 bt283.2.1 bt283.2.2.1 bt283.2.2.2.1 bt291.1 bt291.2.1 bt291.2.2.1 bt291.2.2.2.1)) else (some t301))) else (some t300))) else (some t299))))
theorem graftwoodref03_Cmp.mono_l : ∀ k, (∀ y0 y1 y2 y3 y4 y5 y6 y7 y8 y9 y10, LeO (graftwoodref03_Cmp.j0 k y0 y1 y2 y3 y4 y5 y6 y7 y8 y9 y10) (graftwoodref03_Cmp.j0 (k + 1) y0 y1 y2 y3 y4 y5 y6 y7 y8 y9 y10)) ∧ (∀ y0 y1 y2 y3 y4 y5 y6 y7 y8 y9 y10, LeO (graftwoodref03_Cmp.l0 k y0 y1 y2 y3 y4 y5 y6 y7 y8 y9 y10) (graftwoodref03_Cmp.l0 (k + 1) y0 y1 y2 y3 y4 y5 y6 y7 y8 y9 y10)) ∧ (∀ y0 y1 y2 y3 y4 y5 y6 y7 y8 y9 y10 y11, LeO (graftwoodref03_Cmp.j2 k y0 y1 y2 y3 y4 y5 y6 y7 y8 y9 y10 y11) (graftwoodref03_Cmp.j2 (k + 1) y0 y1 y2 y3 y4 y5 y6 y7 y8 y9 y10 y11))
 | 0 => ⟨fun _ _ _ _ _ _ _ _ _ _ _ r h => by simp [graftwoodref03_Cmp.j0] at h, fun _ _ _ _ _ _ _ _ _ _ _ r h => by simp [graftwoodref03_Cmp.l0] at h, fun _ _ _ _ _ _ _ _ _ _ _ _ r h => by simp [graftwoodref03_Cmp.j2] at h⟩
 | k + 1 => by
  obtain ⟨ih0, ih1, ih2⟩ := graftwoodref03_Cmp.mono_l k
  refine ⟨?_, ?_, ?_⟩
  ·intro y0 y1 y2 y3 y4 y5 y6 y7 y8 y9 y10
   unfold graftwoodref03_Cmp.j0
   repeat' first
   | (with_reducible exact ih0 _ _ _ _ _ _ _ _ _ _ _)
   | (with_reducible exact ih1 _ _ _ _ _ _ _ _ _ _ _)
   | (with_reducible exact ih2 _ _ _ _ _ _ _ _ _ _ _ _)
   | (with_reducible exact graftwoodref02_Cmp.mono _ _ _)
   | (with_reducible exact graftwoodref03_Split.mono _ _)
   | (with_reducible exact graftwoodref03_words.mono _ _ _)
   | (with_reducible exact LeO.refl _)
   | (with_reducible exact LeO.none _)
   | (with_reducible refine LeO.ite ?_ ?_)
   | (with_reducible refine LeO.bind ?_ (fun _ => ?_))
   | exact ih0 _ _ _ _ _ _ _ _ _ _ _
   | exact ih1 _ _ _ _ _ _ _ _ _ _ _
   | exact ih2 _ _ _ _ _ _ _ _ _ _ _ _
   | exact graftwoodref02_Cmp.mono _ _ _
   | exact graftwoodref03_Split.mono _ _
   | exact graftwoodref03_words.mono _ _ _
   | exact LeO.none _
   | refine LeO.ite ?_ ?_
   | refine LeO.bind ?_ (fun _ => ?_)
  ·intro y0 y1 y2 y3 y4 y5 y6 y7 y8 y9 y10
   unfold graftwoodref03_Cmp.l0
   repeat' first
   | (with_reducible exact ih0 _ _ _ _ _ _ _ _ _ _ _)
   | (with_reducible exact ih1 _ _ _ _ _ _ _ _ _ _ _)
   | (with_reducible exact ih2 _ _ _ _ _ _ _ _ _ _ _ _)
   | (with_reducible exact graftwoodref02_Cmp.mono _ _ _)
   | (with_reducible exact graftwoodref03_Split.mono _ _)
   | (with_reducible exact graftwoodref03_words.mono _ _ _)
   | (with_reducible exact LeO.refl _)
   | (with_reducible exact LeO.none _)
   | (with_reducible refine LeO.ite ?_ ?_)
   | (with_reducible refine LeO.bind ?_ (fun _ => ?_))
   | exact ih0 _ _ _ _ _ _ _ _ _ _ _
   | exact ih1 _ _ _ _ _ _ _ _ _ _ _
   | exact ih2 _ _ _ _ _ _ _ _ _ _ _ _
   | exact graftwoodref02_Cmp.mono _ _ _
   | exact graftwoodref03_Split.mono _ _
   | exact graftwoodref03_words.mono _ _ _
   | exact LeO.none _
   | refine LeO.ite ?_ ?_
   | refine LeO.bind ?_ (fun _ => ?_)
  ·intro y0 y1 y2 y3 y4 y5 y6 y7 y8 y9 y10 y11
   unfold graftwoodref03_Cmp.j2
   repeat' first
   | (with_reducible exact ih0 _ _ _ _ _ _ _ _ _ _ _)
   | (with_reducible exact ih1 _ _ _ _ _ _ _ _ _ _ _)
   | (with_reducible exact ih2 _ _ _ _ _ _ _ _ _ _ _ _)
   | (with_reducible exact graftwoodref02_Cmp.mono _ _ _)
   | (with_reducible exact graftwoodref03_Split.mono _ _)
   | (with_reducible exact graftwoodref03_words.mono _ _ _)
   | (with_reducible exact LeO.refl _)
   | (with_reducible exact LeO.none _)
   | (with_reducible refine LeO.ite ?_ ?_)
   | (with_reducible refine LeO.bind ?_ (fun _ => ?_))
   | exact ih0 _ _ _ _ _ _ _ _ _ _ _
   | exact ih1 _ _ _ _ _ _ _ _ _ _ _
   | exact ih2 _ _ _ _ _ _ _ _ _ _ _ _
   | exact graftwoodref02_Cmp.mono _ _ _
   | exact graftwoodref03_Split.mono _ _
   | exact graftwoodref03_words.mono _ _ _
   | exact LeO.none _
   | refine LeO.ite ?_ ?_
   | refine LeO.bind ?_ (fun _ => ?_)
theorem graftwoodref03_Cmp.mono : ∀ a0 a1 k, LeO (graftwoodref03_Cmp.f k a0 a1) (graftwoodref03_Cmp.f (k + 1) a0 a1) := by
 intro a0 a1 k
 obtain ⟨ih0, ih1, ih2⟩ := graftwoodref03_Cmp.mono_l k
 unfold graftwoodref03_Cmp.f
 repeat' first
   | (with_reducible exact ih0 _ _ _ _ _ _ _ _ _ _ _)
   | (with_reducible exact ih1 _ _ _ _ _ _ _ _ _ _ _)
   | (with_reducible exact ih2 _ _ _ _ _ _ _ _ _ _ _ _)
   | (with_reducible exact graftwoodref02_Cmp.mono _ _ _)
   | (with_reducible exact graftwoodref03_Split.mono _ _)
   | (with_reducible exact graftwoodref03_words.mono _ _ _)
   | (with_reducible exact LeO.refl _)
   | (with_reducible exact LeO.none _)
   | (with_reducible refine LeO.ite ?_ ?_)
   | (with_reducible refine LeO.bind ?_ (fun _ => ?_))
   | exact ih0 _ _ _ _ _ _ _ _ _ _ _
   | exact ih1 _ _ _ _ _ _ _ _ _ _ _
   | exact ih2 _ _ _ _ _ _ _ _ _ _ _ _
   | exact graftwoodref02_Cmp.mono _ _ _
   | exact graftwoodref03_Split.mono _ _
   | exact graftwoodref03_words.mono _ _ _
   | exact LeO.none _
   | refine LeO.ite ?_ ?_
   | refine LeO.bind ?_ (fun _ => ?_)
def graftwoodref03_Cmp.T12 : Bool × List (List Nat × List Nat) := (true, [([], []), ([0], [0]), ([1], [1]), ([], []), ([3], [3]), ([4], [4]), ([2, 0, 1, 2], [2]), ([5, 6, 0, 1, 2, 3, 4, 5, 6], [5])])
def graftwoodref03_Cmp.B12 : List Nat := [0, 1, 3, 0, 8, 24, 7, 127]
theorem graftwoodref03_Cmp.tab12 : rtab .any (opsOf Tryd.f15 12) = graftwoodref03_Cmp.T12 := by kernel_rfl
theorem graftwoodref03_Cmp.bits12 : waitsOk graftwoodref03_Cmp.T12.2 graftwoodref03_Cmp.B12 = true := by kernel_rfl
def graftwoodref03_Cmp.T22 : Bool × List (List Nat × List Nat) := (true, [([], []), ([0], [0]), ([], []), ([1, 2], [1, 2]), ([3], [3]), ([], []), ([5], [5]), ([], []), ([6, 7], [6, 7]), ([8], [8]), ([4, 9], [4, 9]), ([10, 10, 0, 1, 2, 3, 4, 5, 6, 7, 8, 9, 10], [10])])
def graftwoodref03_Cmp.B22 : List Nat := [0, 1, 0, 7, 15, 0, 32, 0, 224, 480, 1023, 2047]
theorem graftwoodref03_Cmp.tab22 : rtab .any (opsOf Tryd.f15 22) = graftwoodref03_Cmp.T22 := by kernel_rfl
theorem graftwoodref03_Cmp.bits22 : waitsOk graftwoodref03_Cmp.T22.2 graftwoodref03_Cmp.B22 = true := by kernel_rfl
set_option maxHeartbeats 8000000 in
set_option maxRecDepth 100000 in
theorem graftwoodref03_Cmp.calls (k : Nat) (a0 : ByteArray) (a1 : ByteArray) (r : Int) (w : World) (h : graftwoodref03_Cmp.f k a0 a1 = some r) :
  Calls Tryd.prog 15 #[.string a0, .string a1] w fun e w' => e = .returned (.int .i64 r) ∧ Below w.heap.size w w' := by
 have hu36 := Tryd.underlying36
 have HB := Aside0.mk (Below.refl w.heap.size w)
 have H : ((graftwoodref03_Split.f k a0).bind fun bt283 => ((graftwoodref03_Split.f k a1).bind fun bt291 => ((graftwoodref02_Cmp.f k bt283.1 bt291.1).bind fun t299 => (if t299 = 0 then ((graftwoodref02_Cmp.f k bt283.2.1 bt291.2.1).bind fun t300 => (if t300 = 0 then ((graftwoodref02_Cmp.f k bt283.2.2.1 bt291.2.2.1).bind fun t301 => (if t301 = 0 then (if (bt283.2.2.2.1.length : Int) = 0 then (graftwoodref03_Cmp.j0 k (bt283.2.2.2.1.length : Int) (bt291.2.2.2.1.length : Int) ((bt291.2.2.2.1.length : Int) == 0) bt283.1 bt283.2.1 bt283.2.2.1 bt283.2.2.2.1 bt291.1 bt291.2.1 bt291.2.2.1 bt291.2.2.2.1) else (graftwoodref03_Cmp.j0 k (bt283.2.2.2.1.length : Int) (bt291.2.2.2.1.length : Int) false bt283.1 bt283.2.1 bt283.2.2.1 bt283.2.2.2.1 bt291.1 bt291.2.1 bt291.2.2.1 bt291.2.2.2.1)) else (some t301))) else (some t300))) else (some t299))))) = some r := h
 clear h
 replace H := Option.bind_eq_some_iff.mp H
 obtain ⟨⟨t283, t284, t285, t286, t289⟩, A30, H⟩ := H
 replace H : ((graftwoodref03_Split.f k a1).bind fun bt291 => ((graftwoodref02_Cmp.f k t283 bt291.1).bind fun t299 => (if t299 = 0 then ((graftwoodref02_Cmp.f k t284 bt291.2.1).bind fun t300 => (if t300 = 0 then ((graftwoodref02_Cmp.f k t285 bt291.2.2.1).bind fun t301 => (if t301 = 0 then (if (t286.length : Int) = 0 then (graftwoodref03_Cmp.j0 k (t286.length : Int) (bt291.2.2.2.1.length : Int) ((bt291.2.2.2.1.length : Int) == 0) t283 t284 t285 t286 bt291.1 bt291.2.1 bt291.2.2.1 bt291.2.2.2.1) else (graftwoodref03_Cmp.j0 k (t286.length : Int) (bt291.2.2.2.1.length : Int) false t283 t284 t285 t286 bt291.1 bt291.2.1 bt291.2.2.1 bt291.2.2.2.1)) else (some t301))) else (some t300))) else (some t299)))) = some r := H
 have A3 := Aside0.mk A30
 clear A30
 replace H := Option.bind_eq_some_iff.mp H
 obtain ⟨⟨t291, t292, t293, t294, t297⟩, A40, H⟩ := H
 replace H : ((graftwoodref02_Cmp.f k t283 t291).bind fun t299 => (if t299 = 0 then ((graftwoodref02_Cmp.f k t284 t292).bind fun t300 => (if t300 = 0 then ((graftwoodref02_Cmp.f k t285 t293).bind fun t301 => (if t301 = 0 then (if (t286.length : Int) = 0 then (graftwoodref03_Cmp.j0 k (t286.length : Int) (t294.length : Int) ((t294.length : Int) == 0) t283 t284 t285 t286 t291 t292 t293 t294) else (graftwoodref03_Cmp.j0 k (t286.length : Int) (t294.length : Int) false t283 t284 t285 t286 t291 t292 t293 t294)) else (some t301))) else (some t300))) else (some t299))) = some r := H
 have A4 := Aside0.mk A40
 clear A40
 replace H := Option.bind_eq_some_iff.mp H
 obtain ⟨t299, A50, H⟩ := H
 replace H : (if t299 = 0 then ((graftwoodref02_Cmp.f k t284 t292).bind fun t300 => (if t300 = 0 then ((graftwoodref02_Cmp.f k t285 t293).bind fun t301 => (if t301 = 0 then (if (t286.length : Int) = 0 then (graftwoodref03_Cmp.j0 k (t286.length : Int) (t294.length : Int) ((t294.length : Int) == 0) t283 t284 t285 t286 t291 t292 t293 t294) else (graftwoodref03_Cmp.j0 k (t286.length : Int) (t294.length : Int) false t283 t284 t285 t286 t291 t292 t293 t294)) else (some t301))) else (some t300))) else (some t299)) = some r := H
 have A5 := Aside0.mk A50
 clear A50
 by_cases c6 : t299 = 0
 ·rw [if_pos c6] at H
  have c6b0 : (t299 == 0) = true := beq_iff_eq.mpr c6
  have c6b1 : (t299 != 0) = false := bne_eq_false_iff_eq.mpr c6
  clear c6
  replace H := Option.bind_eq_some_iff.mp H
  obtain ⟨t300, A70, H⟩ := H
  replace H : (if t300 = 0 then ((graftwoodref02_Cmp.f k t285 t293).bind fun t301 => (if t301 = 0 then (if (t286.length : Int) = 0 then (graftwoodref03_Cmp.j0 k (t286.length : Int) (t294.length : Int) ((t294.length : Int) == 0) t283 t284 t285 t286 t291 t292 t293 t294) else (graftwoodref03_Cmp.j0 k (t286.length : Int) (t294.length : Int) false t283 t284 t285 t286 t291 t292 t293 t294)) else (some t301))) else (some t300)) = some r := H
  have A7 := Aside0.mk A70
  clear A70
  by_cases c8 : t300 = 0
  ·rw [if_pos c8] at H
   have c8b0 : (t300 == 0) = true := beq_iff_eq.mpr c8
   have c8b1 : (t300 != 0) = false := bne_eq_false_iff_eq.mpr c8
   clear c8
   replace H := Option.bind_eq_some_iff.mp H
   obtain ⟨t301, A90, H⟩ := H
   replace H : (if t301 = 0 then (if (t286.length : Int) = 0 then (graftwoodref03_Cmp.j0 k (t286.length : Int) (t294.length : Int) ((t294.length : Int) == 0) t283 t284 t285 t286 t291 t292 t293 t294) else (graftwoodref03_Cmp.j0 k (t286.length : Int) (t294.length : Int) false t283 t284 t285 t286 t291 t292 t293 t294)) else (some t301)) = some r := H
   have A9 := Aside0.mk A90
   clear A90
   by_cases c10 : t301 = 0
   ·rw [if_pos c10] at H
    have c10b0 : (t301 == 0) = true := beq_iff_eq.mpr c10
    have c10b1 : (t301 != 0) = false := bne_eq_false_iff_eq.mpr c10
    clear c10
    have HC11 := Aside0.mk H
    clear H
    go_enter Tryd.func15, Tryd.ntmps15
    try go_wp2_with (first | ((with_reducible refine gate_callee (f := 19) rfl ?_); refine goesL_ (some 18) rfl rfl Tryd.func19 (by kernel_rfl) rfl #[.string a0] rfl (by (try simp only [List.map_toArray, List.map_cons, List.map_nil]); first | done | rfl | (simp only [List.length_drop, List.length_take]; rfl)) ?_; (with_reducible refine (graftwoodref03_Split.calls k a0 t283 t284 t285 t286 t289 _ A3.out).mono ?_); rintro e w12 ⟨v287, rfl, ho0, hb⟩; refine ⟨_, rfl, ?_⟩; have n0_ := Aside0.mk (Kd.R_lower ho0 (below_size (by repeat (first | (with_reducible first | exact HB.out | apply below_alloc | apply pw_below_drewN | apply below_drew1) | exact HB.out)))); have n1_ := Aside0.mk (below_step (by repeat (first | (with_reducible first | exact HB.out | apply below_alloc | apply pw_below_drewN | apply below_drew1) | exact HB.out)) hb); clear HB; have HO288 := n0_; have HB := n1_; clear n0_ n1_; (try clear hb); (try clear hb2); (try clear hk); (try clear hi); (try clear ho0)) | ((with_reducible refine gate_dst (N := 5) rfl ?_); refine box_event ?hg (N := 5) ?hd (cs := #[.string (⟨#[]⟩ : ByteArray), .string (⟨#[]⟩ : ByteArray), .string (⟨#[]⟩ : ByteArray), .slice none 0 0]) (t := 36) ?hr ?_; (case hd => rfl); (case hg => rfl); (case hr => first | (go_simp; done) | (go_simp; rfl)); intro gb290 hg w13 hbox hb; have n0_ := Aside0.mk (Kd.R_below (by (with_reducible repeat (first | apply Kd.R_alloc | apply Kd.R_drewN | apply Kd.R_drew)); exact HO288.out) hb); have n1_ := Aside0.mk (below_step (by repeat (first | (with_reducible first | exact HB.out | apply below_alloc | apply pw_below_drewN | apply below_drew1) | exact HB.out)) hb); have n2_ := Aside0.mk (hbox); have n3_ := Aside0.mk ((by rw [hg]; exact (below_size (by repeat (first | (with_reducible first | exact HB.out | apply below_alloc | apply pw_below_drewN | apply below_drew1) | exact HB.out))) : w.heap.size ≤ gb290)); have n4_ := Aside0.mk ((by rw [hg]; exact (below_size (by repeat (first | (with_reducible first | exact HB.out | apply below_alloc | apply pw_below_drewN | apply below_drew1) | exact HB.out))) : w.heap.size ≤ gb290)); clear HO288; clear HB; have HO288 := n0_; have HB := n1_; have BK290 := n2_; have GW290 := n3_; have GE290 := n4_; clear n0_ n1_ n2_ n3_ n4_; clear hb hbox hg; have hcz14_0 : w13.cell? ⟨gb290, 0, none⟩ = some (.string (⟨#[]⟩ : ByteArray)) := (blk_cell BK290.out 0).trans rfl; have hcz14_1 : w13.cell? ⟨gb290, 1, none⟩ = some (.string (⟨#[]⟩ : ByteArray)) := (blk_cell BK290.out 1).trans rfl; have hcz14_2 : w13.cell? ⟨gb290, 2, none⟩ = some (.string (⟨#[]⟩ : ByteArray)) := (blk_cell BK290.out 2).trans rfl; have hcz14_3 : w13.cell? ⟨gb290, 3, none⟩ = some (.slice none 0 0) := (blk_cell BK290.out 3).trans rfl; have hfz14_0 := blk_frozen BK290.out 0; have hfz14_1 := blk_frozen BK290.out 1; have hfz14_2 := blk_frozen BK290.out 2; have hfz14_3 := blk_frozen BK290.out 3; obtain ⟨Ao15, co15, eo15⟩ := Kd.R_slice HO288.out; subst eo15) | ((with_reducible refine gate_callee (f := 19) rfl ?_); refine goesL_ (some 23) rfl rfl Tryd.func19 (by kernel_rfl) rfl #[.string a1] rfl (by (try simp only [List.map_toArray, List.map_cons, List.map_nil]); first | done | rfl | (simp only [List.length_drop, List.length_take]; rfl)) ?_; (with_reducible refine (graftwoodref03_Split.calls k a1 t291 t292 t293 t294 t297 _ A4.out).mono ?_); rintro e w16 ⟨v295, rfl, ho0, hb⟩; refine ⟨_, rfl, ?_⟩; have n0_ := Aside0.mk (Kd.R_elder' (by (with_reducible repeat (first | apply Kd.R_alloc | apply Kd.R_drewN | apply Kd.R_drew)); exact (Kd.R_mono (Kd.R_far (p := ⟨gb290, 3, none⟩) (Kd.R_far (p := ⟨gb290, 2, none⟩) (Kd.R_far (p := ⟨gb290, 1, none⟩) (Kd.R_far (p := ⟨gb290, 0, none⟩) (Kd.R_types HO288.out BK290.out (by decide)) (fun _ hk => hk.2) (.string t283)) (fun _ hk => hk.2) (.string t284)) (fun _ hk => hk.2) (.string t285)) (fun _ hk => hk.2) (.slice Ao15 t286.length co15)) (fun _ h_ => h_.1))) (Kd.R_base ho0) hb); have n1_ := Aside0.mk (Kd.R_lower (Kd.R_new' ho0 (Kd.R_lt (by (with_reducible repeat (first | apply Kd.R_alloc | apply Kd.R_drewN | apply Kd.R_drew)); exact (Kd.R_mono (Kd.R_far (p := ⟨gb290, 3, none⟩) (Kd.R_far (p := ⟨gb290, 2, none⟩) (Kd.R_far (p := ⟨gb290, 1, none⟩) (Kd.R_far (p := ⟨gb290, 0, none⟩) (Kd.R_types HO288.out BK290.out (by decide)) (fun _ hk => hk.2) (.string t283)) (fun _ hk => hk.2) (.string t284)) (fun _ hk => hk.2) (.string t285)) (fun _ hk => hk.2) (.slice Ao15 t286.length co15)) (fun _ h_ => h_.1))))) (below_size (by repeat (first | (with_reducible first | exact HB.out | apply below_alloc | apply pw_below_drewN | apply below_drew1 | refine below_set ?_ GE290.out) | exact HB.out)))); have n2_ := Aside0.mk (blk_below (g := gb290) (o := .cells #[.string t283, .string t284, .string t285, .slice Ao15 t286.length co15] 36 (0, 0)) (by (with_reducible repeat (first | refine blk_drewN ?_ _ | refine blk_drew ?_ | refine blk_alloc ?_ _)); refine blk_put (cs := #[.string t283, .string t284, .string t285, .slice none 0 0]) ?_ 3 _ rfl; (with_reducible repeat (first | refine blk_drewN ?_ _ | refine blk_drew ?_ | refine blk_alloc ?_ _)); refine blk_put (cs := #[.string t283, .string t284, .string (⟨#[]⟩ : ByteArray), .slice none 0 0]) ?_ 2 _ rfl; (with_reducible repeat (first | refine blk_drewN ?_ _ | refine blk_drew ?_ | refine blk_alloc ?_ _)); refine blk_put (cs := #[.string t283, .string (⟨#[]⟩ : ByteArray), .string (⟨#[]⟩ : ByteArray), .slice none 0 0]) ?_ 1 _ rfl; (with_reducible repeat (first | refine blk_drewN ?_ _ | refine blk_drew ?_ | refine blk_alloc ?_ _)); refine blk_put (cs := #[.string (⟨#[]⟩ : ByteArray), .string (⟨#[]⟩ : ByteArray), .string (⟨#[]⟩ : ByteArray), .slice none 0 0]) ?_ 0 _ rfl; (with_reducible repeat (first | refine blk_drewN ?_ _ | refine blk_drew ?_ | refine blk_alloc ?_ _)); exact BK290.out) hb); have n3_ := Aside0.mk (below_step (by repeat (first | (with_reducible first | exact HB.out | apply below_alloc | apply pw_below_drewN | apply below_drew1 | refine below_set ?_ GE290.out) | exact HB.out)) hb); clear HO288; clear BK290; clear HB; have HO288 := n0_; have HO296 := n1_; have BK290 := n2_; have HB := n3_; clear n0_ n1_ n2_ n3_; (try clear hb); (try clear hb2); (try clear hk); (try clear hi); (try clear ho0)) | ((with_reducible refine gate_dst (N := 7) rfl ?_); refine box_event ?hg (N := 7) ?hd (cs := #[.string (⟨#[]⟩ : ByteArray), .string (⟨#[]⟩ : ByteArray), .string (⟨#[]⟩ : ByteArray), .slice none 0 0]) (t := 36) ?hr ?_; (case hd => rfl); (case hg => rfl); (case hr => first | (go_simp; done) | (go_simp; rfl)); intro gb298 hg w17 hbox hb; have n0_ := Aside0.mk (Kd.R_below (by (with_reducible repeat (first | apply Kd.R_alloc | apply Kd.R_drewN | apply Kd.R_drew)); exact HO288.out) hb); have n1_ := Aside0.mk (Kd.R_below (by (with_reducible repeat (first | apply Kd.R_alloc | apply Kd.R_drewN | apply Kd.R_drew)); exact HO296.out) hb); have n2_ := Aside0.mk (blk_below (g := gb290) (o := .cells #[.string t283, .string t284, .string t285, .slice Ao15 t286.length co15] 36 (0, 0)) (by (with_reducible repeat (first | refine blk_drewN ?_ _ | refine blk_drew ?_ | refine blk_alloc ?_ _)); exact BK290.out) hb); have n3_ := Aside0.mk (below_step (by repeat (first | (with_reducible first | exact HB.out | apply below_alloc | apply pw_below_drewN | apply below_drew1 | refine below_set ?_ GE290.out) | exact HB.out)) hb); have n4_ := Aside0.mk (hbox); have n5_ := Aside0.mk ((by rw [hg]; exact (below_size (by repeat (first | (with_reducible first | exact HB.out | apply below_alloc | apply pw_below_drewN | apply below_drew1 | refine below_set ?_ GE290.out) | exact HB.out))) : w.heap.size ≤ gb298)); have n6_ := Aside0.mk ((by rw [hg]; exact (below_size (by repeat (first | (with_reducible first | exact HB.out | apply below_alloc | apply pw_below_drewN | apply below_drew1 | refine below_set ?_ GE290.out) | exact HB.out))) : w.heap.size ≤ gb298)); have n7_ := Aside0.mk ((by rw [hg]; exact Nat.ne_of_lt (blk_lt (g := gb290) (o := .cells #[.string t283, .string t284, .string t285, .slice Ao15 t286.length co15] 36 (0, 0)) (by (with_reducible repeat (first | refine blk_drewN ?_ _ | refine blk_drew ?_ | refine blk_alloc ?_ _)); exact BK290.out)) : gb290 ≠ gb298)); have n8_ := Aside0.mk ((by rw [hg]; exact Nat.ne_of_gt (blk_lt (g := gb290) (o := .cells #[.string t283, .string t284, .string t285, .slice Ao15 t286.length co15] 36 (0, 0)) (by (with_reducible repeat (first | refine blk_drewN ?_ _ | refine blk_drew ?_ | refine blk_alloc ?_ _)); exact BK290.out)) : gb298 ≠ gb290)); clear HO288; clear HO296; clear BK290; clear HB; have HO288 := n0_; have HO296 := n1_; have BK290 := n2_; have HB := n3_; have BK298 := n4_; have GW298 := n5_; have GE298 := n6_; have NB290_298 := n7_; have NB298_290 := n8_; clear n0_ n1_ n2_ n3_ n4_ n5_ n6_ n7_ n8_; clear hb hbox hg; have hnb18 := NB298_290.out; have hnc18 := NB290_298.out; have hcz19_0 : w17.cell? ⟨gb298, 0, none⟩ = some (.string (⟨#[]⟩ : ByteArray)) := (blk_cell BK298.out 0).trans rfl; have hcz19_1 : w17.cell? ⟨gb298, 1, none⟩ = some (.string (⟨#[]⟩ : ByteArray)) := (blk_cell BK298.out 1).trans rfl; have hcz19_2 : w17.cell? ⟨gb298, 2, none⟩ = some (.string (⟨#[]⟩ : ByteArray)) := (blk_cell BK298.out 2).trans rfl; have hcz19_3 : w17.cell? ⟨gb298, 3, none⟩ = some (.slice none 0 0) := (blk_cell BK298.out 3).trans rfl; have hfz19_0 := blk_frozen BK298.out 0; have hfz19_1 := blk_frozen BK298.out 1; have hfz19_2 := blk_frozen BK298.out 2; have hfz19_3 := blk_frozen BK298.out 3; obtain ⟨Ao20, co20, eo20⟩ := Kd.R_slice HO296.out; subst eo20; have hcz21_0 : w17.cell? ⟨gb290, 0, none⟩ = some (.string t283) := (blk_cell BK290.out 0).trans rfl; have hcz21_1 : w17.cell? ⟨gb290, 1, none⟩ = some (.string t284) := (blk_cell BK290.out 1).trans rfl; have hcz21_2 : w17.cell? ⟨gb290, 2, none⟩ = some (.string t285) := (blk_cell BK290.out 2).trans rfl; have hcz21_3 : w17.cell? ⟨gb290, 3, none⟩ = some (.slice Ao15 t286.length co15) := (blk_cell BK290.out 3).trans rfl; have hfz21_0 := blk_frozen BK290.out 0; have hfz21_1 := blk_frozen BK290.out 1; have hfz21_2 := blk_frozen BK290.out 2; have hfz21_3 := blk_frozen BK290.out 3) | ((with_reducible refine gate_callee (f := 27) rfl ?_); refine goesL_ (some 30) rfl rfl Tryd.func27 (by kernel_rfl) rfl #[.string t283, .string t291] rfl (by (try simp only [List.map_toArray, List.map_cons, List.map_nil]); first | done | rfl | (simp only [List.length_drop, List.length_take]; rfl)) ?_; (with_reducible refine (graftwoodref02_Cmp.calls k t283 t291 t299 _ A5.out).mono ?_); rintro e w22 ⟨rfl, hb⟩; refine ⟨_, rfl, ?_⟩; have n0_ := Aside0.mk (Kd.R_below (by (with_reducible repeat (first | apply Kd.R_alloc | apply Kd.R_drewN | apply Kd.R_drew)); exact (Kd.R_mono (Kd.R_far (p := ⟨gb298, 3, none⟩) (Kd.R_far (p := ⟨gb298, 2, none⟩) (Kd.R_far (p := ⟨gb298, 1, none⟩) (Kd.R_far (p := ⟨gb298, 0, none⟩) (Kd.R_types HO288.out BK298.out (by decide)) (fun _ hk => hk.2) (.string t291)) (fun _ hk => hk.2) (.string t292)) (fun _ hk => hk.2) (.string t293)) (fun _ hk => hk.2) (.slice Ao20 t294.length co20)) (fun _ h_ => h_.1))) hb); have n1_ := Aside0.mk (Kd.R_below (by (with_reducible repeat (first | apply Kd.R_alloc | apply Kd.R_drewN | apply Kd.R_drew)); exact (Kd.R_mono (Kd.R_far (p := ⟨gb298, 3, none⟩) (Kd.R_far (p := ⟨gb298, 2, none⟩) (Kd.R_far (p := ⟨gb298, 1, none⟩) (Kd.R_far (p := ⟨gb298, 0, none⟩) (Kd.R_types HO296.out BK298.out (by decide)) (fun _ hk => hk.2) (.string t291)) (fun _ hk => hk.2) (.string t292)) (fun _ hk => hk.2) (.string t293)) (fun _ hk => hk.2) (.slice Ao20 t294.length co20)) (fun _ h_ => h_.1))) hb); have n2_ := Aside0.mk (blk_below (g := gb290) (o := .cells #[.string t283, .string t284, .string t285, .slice Ao15 t286.length co15] 36 (0, 0)) (by (with_reducible repeat (first | refine blk_drewN ?_ _ | refine blk_drew ?_ | refine blk_alloc ?_ _)); refine blk_far ?_ NB290_298.out _; (with_reducible repeat (first | refine blk_drewN ?_ _ | refine blk_drew ?_ | refine blk_alloc ?_ _)); refine blk_far ?_ NB290_298.out _; (with_reducible repeat (first | refine blk_drewN ?_ _ | refine blk_drew ?_ | refine blk_alloc ?_ _)); refine blk_far ?_ NB290_298.out _; (with_reducible repeat (first | refine blk_drewN ?_ _ | refine blk_drew ?_ | refine blk_alloc ?_ _)); refine blk_far ?_ NB290_298.out _; (with_reducible repeat (first | refine blk_drewN ?_ _ | refine blk_drew ?_ | refine blk_alloc ?_ _)); exact BK290.out) hb); have n3_ := Aside0.mk (blk_below (g := gb298) (o := .cells #[.string t291, .string t292, .string t293, .slice Ao20 t294.length co20] 36 (0, 0)) (by (with_reducible repeat (first | refine blk_drewN ?_ _ | refine blk_drew ?_ | refine blk_alloc ?_ _)); refine blk_put (cs := #[.string t291, .string t292, .string t293, .slice none 0 0]) ?_ 3 _ rfl; (with_reducible repeat (first | refine blk_drewN ?_ _ | refine blk_drew ?_ | refine blk_alloc ?_ _)); refine blk_put (cs := #[.string t291, .string t292, .string (⟨#[]⟩ : ByteArray), .slice none 0 0]) ?_ 2 _ rfl; (with_reducible repeat (first | refine blk_drewN ?_ _ | refine blk_drew ?_ | refine blk_alloc ?_ _)); refine blk_put (cs := #[.string t291, .string (⟨#[]⟩ : ByteArray), .string (⟨#[]⟩ : ByteArray), .slice none 0 0]) ?_ 1 _ rfl; (with_reducible repeat (first | refine blk_drewN ?_ _ | refine blk_drew ?_ | refine blk_alloc ?_ _)); refine blk_put (cs := #[.string (⟨#[]⟩ : ByteArray), .string (⟨#[]⟩ : ByteArray), .string (⟨#[]⟩ : ByteArray), .slice none 0 0]) ?_ 0 _ rfl; (with_reducible repeat (first | refine blk_drewN ?_ _ | refine blk_drew ?_ | refine blk_alloc ?_ _)); exact BK298.out) hb); have n4_ := Aside0.mk (below_step (by repeat (first | (with_reducible first | exact HB.out | apply below_alloc | apply pw_below_drewN | apply below_drew1 | refine below_set ?_ GE290.out | refine below_set ?_ GE298.out) | exact HB.out)) hb); clear HO288; clear HO296; clear BK290; clear BK298; clear HB; have HO288 := n0_; have HO296 := n1_; have BK290 := n2_; have BK298 := n3_; have HB := n4_; clear n0_ n1_ n2_ n3_ n4_; (try clear hb); (try clear hb2); (try clear hk); (try clear hi); have hcz23_0 : w22.cell? ⟨gb290, 0, none⟩ = some (.string t283) := (blk_cell BK290.out 0).trans rfl; have hcz23_1 : w22.cell? ⟨gb290, 1, none⟩ = some (.string t284) := (blk_cell BK290.out 1).trans rfl; have hcz23_2 : w22.cell? ⟨gb290, 2, none⟩ = some (.string t285) := (blk_cell BK290.out 2).trans rfl; have hcz23_3 : w22.cell? ⟨gb290, 3, none⟩ = some (.slice Ao15 t286.length co15) := (blk_cell BK290.out 3).trans rfl; have hfz23_0 := blk_frozen BK290.out 0; have hfz23_1 := blk_frozen BK290.out 1; have hfz23_2 := blk_frozen BK290.out 2; have hfz23_3 := blk_frozen BK290.out 3; have hcz24_0 : w22.cell? ⟨gb298, 0, none⟩ = some (.string t291) := (blk_cell BK298.out 0).trans rfl; have hcz24_1 : w22.cell? ⟨gb298, 1, none⟩ = some (.string t292) := (blk_cell BK298.out 1).trans rfl; have hcz24_2 : w22.cell? ⟨gb298, 2, none⟩ = some (.string t293) := (blk_cell BK298.out 2).trans rfl; have hcz24_3 : w22.cell? ⟨gb298, 3, none⟩ = some (.slice Ao20 t294.length co20) := (blk_cell BK298.out 3).trans rfl; have hfz24_0 := blk_frozen BK298.out 0; have hfz24_1 := blk_frozen BK298.out 1; have hfz24_2 := blk_frozen BK298.out 2; have hfz24_3 := blk_frozen BK298.out 3) | ((with_reducible refine gate_callee (f := 27) rfl ?_); refine goesL_ (some 38) rfl rfl Tryd.func27 (by kernel_rfl) rfl #[.string t284, .string t292] rfl (by (try simp only [List.map_toArray, List.map_cons, List.map_nil]); first | done | rfl | (simp only [List.length_drop, List.length_take]; rfl)) ?_; (with_reducible refine (graftwoodref02_Cmp.calls k t284 t292 t300 _ A7.out).mono ?_); rintro e w25 ⟨rfl, hb⟩; refine ⟨_, rfl, ?_⟩; have n0_ := Aside0.mk (Kd.R_below (by (with_reducible repeat (first | apply Kd.R_alloc | apply Kd.R_drewN | apply Kd.R_drew)); exact HO288.out) hb); have n1_ := Aside0.mk (Kd.R_below (by (with_reducible repeat (first | apply Kd.R_alloc | apply Kd.R_drewN | apply Kd.R_drew)); exact HO296.out) hb); have n2_ := Aside0.mk (blk_below (g := gb290) (o := .cells #[.string t283, .string t284, .string t285, .slice Ao15 t286.length co15] 36 (0, 0)) (by (with_reducible repeat (first | refine blk_drewN ?_ _ | refine blk_drew ?_ | refine blk_alloc ?_ _)); exact BK290.out) hb); have n3_ := Aside0.mk (blk_below (g := gb298) (o := .cells #[.string t291, .string t292, .string t293, .slice Ao20 t294.length co20] 36 (0, 0)) (by (with_reducible repeat (first | refine blk_drewN ?_ _ | refine blk_drew ?_ | refine blk_alloc ?_ _)); exact BK298.out) hb); have n4_ := Aside0.mk (below_step (by repeat (first | (with_reducible first | exact HB.out | apply below_alloc | apply pw_below_drewN | apply below_drew1 | refine below_set ?_ GE290.out | refine below_set ?_ GE298.out) | exact HB.out)) hb); clear HO288; clear HO296; clear BK290; clear BK298; clear HB; have HO288 := n0_; have HO296 := n1_; have BK290 := n2_; have BK298 := n3_; have HB := n4_; clear n0_ n1_ n2_ n3_ n4_; (try clear hb); (try clear hb2); (try clear hk); (try clear hi); have hcz26_0 : w25.cell? ⟨gb290, 0, none⟩ = some (.string t283) := (blk_cell BK290.out 0).trans rfl; have hcz26_1 : w25.cell? ⟨gb290, 1, none⟩ = some (.string t284) := (blk_cell BK290.out 1).trans rfl; have hcz26_2 : w25.cell? ⟨gb290, 2, none⟩ = some (.string t285) := (blk_cell BK290.out 2).trans rfl; have hcz26_3 : w25.cell? ⟨gb290, 3, none⟩ = some (.slice Ao15 t286.length co15) := (blk_cell BK290.out 3).trans rfl; have hfz26_0 := blk_frozen BK290.out 0; have hfz26_1 := blk_frozen BK290.out 1; have hfz26_2 := blk_frozen BK290.out 2; have hfz26_3 := blk_frozen BK290.out 3; have hcz27_0 : w25.cell? ⟨gb298, 0, none⟩ = some (.string t291) := (blk_cell BK298.out 0).trans rfl; have hcz27_1 : w25.cell? ⟨gb298, 1, none⟩ = some (.string t292) := (blk_cell BK298.out 1).trans rfl; have hcz27_2 : w25.cell? ⟨gb298, 2, none⟩ = some (.string t293) := (blk_cell BK298.out 2).trans rfl; have hcz27_3 : w25.cell? ⟨gb298, 3, none⟩ = some (.slice Ao20 t294.length co20) := (blk_cell BK298.out 3).trans rfl; have hfz27_0 := blk_frozen BK298.out 0; have hfz27_1 := blk_frozen BK298.out 1; have hfz27_2 := blk_frozen BK298.out 2; have hfz27_3 := blk_frozen BK298.out 3) | ((with_reducible refine gate_callee (f := 27) rfl ?_); refine goesL_ (some 46) rfl rfl Tryd.func27 (by kernel_rfl) rfl #[.string t285, .string t293] rfl (by (try simp only [List.map_toArray, List.map_cons, List.map_nil]); first | done | rfl | (simp only [List.length_drop, List.length_take]; rfl)) ?_; (with_reducible refine (graftwoodref02_Cmp.calls k t285 t293 t301 _ A9.out).mono ?_); rintro e w28 ⟨rfl, hb⟩; refine ⟨_, rfl, ?_⟩; have n0_ := Aside0.mk (Kd.R_below (by (with_reducible repeat (first | apply Kd.R_alloc | apply Kd.R_drewN | apply Kd.R_drew)); exact HO288.out) hb); have n1_ := Aside0.mk (Kd.R_below (by (with_reducible repeat (first | apply Kd.R_alloc | apply Kd.R_drewN | apply Kd.R_drew)); exact HO296.out) hb); have n2_ := Aside0.mk (blk_below (g := gb290) (o := .cells #[.string t283, .string t284, .string t285, .slice Ao15 t286.length co15] 36 (0, 0)) (by (with_reducible repeat (first | refine blk_drewN ?_ _ | refine blk_drew ?_ | refine blk_alloc ?_ _)); exact BK290.out) hb); have n3_ := Aside0.mk (blk_below (g := gb298) (o := .cells #[.string t291, .string t292, .string t293, .slice Ao20 t294.length co20] 36 (0, 0)) (by (with_reducible repeat (first | refine blk_drewN ?_ _ | refine blk_drew ?_ | refine blk_alloc ?_ _)); exact BK298.out) hb); have n4_ := Aside0.mk (below_step (by repeat (first | (with_reducible first | exact HB.out | apply below_alloc | apply pw_below_drewN | apply below_drew1 | refine below_set ?_ GE290.out | refine below_set ?_ GE298.out) | exact HB.out)) hb); clear HO288; clear HO296; clear BK290; clear BK298; clear HB; have HO288 := n0_; have HO296 := n1_; have BK290 := n2_; have BK298 := n3_; have HB := n4_; clear n0_ n1_ n2_ n3_ n4_; (try clear hb); (try clear hb2); (try clear hk); (try clear hi)))
    have n0_ := Aside0.mk (Kd.R_drew HO288.out)
    have n1_ := Aside0.mk (Kd.R_drew HO296.out)
    have n2_ := Aside0.mk (blk_drew BK290.out)
    have n3_ := Aside0.mk (blk_drew BK298.out)
    have n4_ := Aside0.mk (below_drew1 HB.out)
    clear HO288
    clear HO296
    clear BK290
    clear BK298
    clear HB
    have HO288 := n0_
    have HO296 := n1_
    have BK290 := n2_
    have BK298 := n3_
    have HB := n4_
    clear n0_ n1_ n2_ n3_ n4_
    refine start_ (n := 8) (S := fun w' => w'.cell? ⟨gb290, 0, none⟩ = some (.string t283) ∧ w'.cell? ⟨gb290, 1, none⟩ = some (.string t284) ∧ w'.cell? ⟨gb290, 2, none⟩ = some (.string t285) ∧ w'.cell? ⟨gb290, 3, none⟩ = some (.slice Ao15 t286.length co15) ∧ w'.cell? ⟨gb298, 0, none⟩ = some (.string t291) ∧ w'.cell? ⟨gb298, 1, none⟩ = some (.string t292) ∧ w'.cell? ⟨gb298, 2, none⟩ = some (.string t293) ∧ w'.cell? ⟨gb298, 3, none⟩ = some (.slice Ao20 t294.length co20)) (ds := []) #[false, false, false, false, false, false, false, false] (by kernel_rfl) rfl rfl ⟨(blk_cell BK290.out 0).trans rfl, (blk_cell BK290.out 1).trans rfl, (blk_cell BK290.out 2).trans rfl, (blk_cell BK290.out 3).trans rfl, (blk_cell BK298.out 0).trans rfl, (blk_cell BK298.out 1).trans rfl, (blk_cell BK298.out 2).trans rfl, (blk_cell BK298.out 3).trans rfl⟩ (fun hHeld => ?_); refine with_tabW graftwoodref03_Cmp.tab12 graftwoodref03_Cmp.bits12 (fun HT_ HW_ => ?_)
    generalize w28.drew = w29 at HO288 HO296 BK290 BK298 HB hHeld ⊢
    refine pure_ (i := 0) (N := some 50) (v := ?_) (a' := ?_) #[true, false, false, false, false, false, false, false] rfl rfl (any_of HT_.out (by kernel_rfl)) (fun _ _ _ h => h) (Or.inl ⟨by rfl, ?_⟩) ?_ ?_
    rotate_left
    ·intro w'
     go_simp
     with_reducible rfl
    rotate_left
    ·simp only [Act.put, List.setIfInBounds_toArray, List.set_cons_zero, List.set_cons_succ, i64_w, i32_w]
     rfl
    refine pure_ (i := 3) (N := some 53) (v := ?_) (a' := ?_) #[true, false, false, true, false, false, false, false] rfl rfl (any_of HT_.out (by kernel_rfl)) (fun _ _ _ h => h) (Or.inl ⟨by rfl, ?_⟩) ?_ ?_
    rotate_left
    ·intro w'
     go_simp
     with_reducible rfl
    rotate_left
    ·simp only [Act.put, List.setIfInBounds_toArray, List.set_cons_zero, List.set_cons_succ, i64_w, i32_w]
     rfl
    refine take_ (i := 1) (N := some 51) (v := ?_) (a' := ?_) #[true, true, false, true, false, false, false, false] rfl rfl (take_ofW HT_.out HW_.out (by kernel_rfl)) (fun _ _ _ h => h) (Or.inl ⟨by rfl, ?_⟩) hHeld ?_ ?_
    rotate_left
    ·rintro w' ⟨s0, s1, s2, s3, s4, s5, s6, s7⟩
     go_simp
     with_reducible rfl
    rotate_left
    ·simp only [Act.put, List.setIfInBounds_toArray, List.set_cons_zero, List.set_cons_succ, i64_w, i32_w]
     rfl
    refine pure_ (i := 2) (N := some 52) (v := ?_) (a' := ?_) #[true, true, true, true, false, false, false, false] rfl rfl (any_of HT_.out (by kernel_rfl)) (fun _ _ _ h => h) (Or.inl ⟨by rfl, ?_⟩) ?_ ?_
    rotate_left
    ·intro w'
     go_simp
     with_reducible rfl
    rotate_left
    ·simp only [Act.put, List.setIfInBounds_toArray, List.set_cons_zero, List.set_cons_succ, i64_w, i32_w]
     rfl
    refine pure_ (i := 6) (N := some 12) (v := ?_) (a' := ?_) #[true, true, true, true, false, false, true, false] rfl rfl (any_of HT_.out (by kernel_rfl)) (fun _ _ _ h => h) (Or.inl ⟨by rfl, ?_⟩) ?_ ?_
    rotate_left
    ·intro w'
     go_simp
     with_reducible rfl
    rotate_left
    ·simp only [Act.put, List.setIfInBounds_toArray, List.set_cons_zero, List.set_cons_succ, i64_w, i32_w]
     rfl
    refine take_ (i := 4) (N := some 54) (v := ?_) (a' := ?_) #[true, true, true, true, true, false, true, false] rfl rfl (take_ofW HT_.out HW_.out (by kernel_rfl)) (fun _ _ _ h => h) (Or.inl ⟨by rfl, ?_⟩) hHeld ?_ ?_
    rotate_left
    ·rintro w' ⟨s0, s1, s2, s3, s4, s5, s6, s7⟩
     go_simp
     with_reducible rfl
    rotate_left
    ·simp only [Act.put, List.setIfInBounds_toArray, List.set_cons_zero, List.set_cons_succ, i64_w, i32_w]
     rfl
    refine pure_ (i := 5) (N := some 55) (v := ?_) (a' := ?_) #[true, true, true, true, true, true, true, false] rfl rfl (any_of HT_.out (by kernel_rfl)) (fun _ _ _ h => h) (Or.inl ⟨by rfl, ?_⟩) ?_ ?_
    rotate_left
    ·intro w'
     go_simp
     with_reducible rfl
    rotate_left
    ·simp only [Act.put, List.setIfInBounds_toArray, List.set_cons_zero, List.set_cons_succ, i64_w, i32_w]
     rfl
    refine pure_ (i := 7) (N := some 13) (v := ?_) (a' := ?_) #[true, true, true, true, true, true, true, true] rfl rfl (any_of HT_.out (by kernel_rfl)) (fun _ _ _ h => h) (Or.inl ⟨by rfl, ?_⟩) ?_ ?_
    rotate_left
    ·intro w'
     go_simp
     with_reducible rfl
    rotate_left
    ·simp only [Act.put, List.setIfInBounds_toArray, List.set_cons_zero, List.set_cons_succ, i64_w, i32_w]
     rfl
    refine done_ (done_of HT_.out (by kernel_rfl)) ?_
    go_upto_region 13 with (fail)
    go_cut [61] (fun v61 wc => ∃ (kq : Nat) (x61_10 : Bool), v61 = .bool x61_10 ∧ Aside0 (graftwoodref03_Cmp.j0 kq (t286.length : Int) (t294.length : Int) x61_10 t283 t284 t285 t286 t291 t292 t293 t294 = some r) ∧ Aside0 (kq ≤ k) ∧ Aside0 (Kd.R Kd.string 9 wc w.heap.size (fun k_ => some k_ ≠ ((.slice Ao20 t294.length co20) : Value).ownBlock) (.slice Ao15 t286.length co15) t286) ∧ Aside0 (Kd.R Kd.string 9 wc w.heap.size (fun k_ => some k_ ≠ ((.slice Ao15 t286.length co15) : Value).ownBlock) (.slice Ao20 t294.length co20) t294) ∧ Aside0 (wc.heap[gb290]? = some (.cells #[.string t283, .string t284, .string t285, (.slice Ao15 t286.length co15)] 36 (0, 0))) ∧ Aside0 (wc.heap[gb298]? = some (.cells #[.string t291, .string t292, .string t293, (.slice Ao20 t294.length co20)] 36 (0, 0))) ∧ Aside0 (Below w.heap.size w wc))
    case first =>
     have H := HC11.out
     clear HC11
     by_cases c30 : (t286.length : Int) = 0
     ·rw [if_pos c30] at H
      have c30b0 : ((t286.length : Int) == 0) = true := beq_iff_eq.mpr c30
      have c30b1 : ((t286.length : Int) != 0) = false := bne_eq_false_iff_eq.mpr c30
      clear c30
      (first | rw [c30b0] | (simp only [i64_w, i32_w]; rw [c30b0]) | skip)
      have H' := Aside0.mk H
      clear H
      go_wp2
      go_meet
      case rel => exact ⟨_, (((t294.length : Int) == 0)), (by first | rfl | (simp; done) | (simp [*]; done)), H', ⟨by first | omega | exact Nat.le_refl _⟩, ⟨by (with_reducible repeat (first | apply Kd.R_alloc | apply Kd.R_drewN | apply Kd.R_drew)); exact Kd.R_mono HO288.out (fun _ hk => hk.2)⟩, ⟨by (with_reducible repeat (first | apply Kd.R_alloc | apply Kd.R_drewN | apply Kd.R_drew)); exact Kd.R_mono HO296.out (fun _ hk => hk.2)⟩, ⟨by (with_reducible repeat (first | refine blk_drewN ?_ _ | refine blk_drew ?_ | refine blk_alloc ?_ _)); exact BK290.out⟩, ⟨by (with_reducible repeat (first | refine blk_drewN ?_ _ | refine blk_drew ?_ | refine blk_alloc ?_ _)); exact BK298.out⟩, ⟨by repeat (first | (with_reducible first | exact HB.out | apply below_alloc | apply pw_below_drewN | apply below_drew1 | refine below_set ?_ GE290.out | refine below_set ?_ GE298.out) | exact HB.out)⟩⟩
     ·rw [if_neg c30] at H
      have c30b0 : ((t286.length : Int) == 0) = false := beq_eq_false_iff_ne.mpr c30
      have c30b1 : ((t286.length : Int) != 0) = true := bne_iff_ne.mpr c30
      have c30b2 : ¬ (t286 = []) := fun h_ => c30 (by rw [h_]; rfl)
      (first | rw [c30b0] | (simp only [i64_w, i32_w]; rw [c30b0]) | skip)
      have H' := Aside0.mk H
      clear H
      go_wp2
      go_meet
      case rel => exact ⟨_, (false), (by first | rfl | (simp; done) | (simp [*]; done)), H', ⟨by first | omega | exact Nat.le_refl _⟩, ⟨by (with_reducible repeat (first | apply Kd.R_alloc | apply Kd.R_drewN | apply Kd.R_drew)); exact Kd.R_mono HO288.out (fun _ hk => hk.2)⟩, ⟨by (with_reducible repeat (first | apply Kd.R_alloc | apply Kd.R_drewN | apply Kd.R_drew)); exact Kd.R_mono HO296.out (fun _ hk => hk.2)⟩, ⟨by (with_reducible repeat (first | refine blk_drewN ?_ _ | refine blk_drew ?_ | refine blk_alloc ?_ _)); exact BK290.out⟩, ⟨by (with_reducible repeat (first | refine blk_drewN ?_ _ | refine blk_drew ?_ | refine blk_alloc ?_ _)); exact BK298.out⟩, ⟨by repeat (first | (with_reducible first | exact HB.out | apply below_alloc | apply pw_below_drewN | apply below_drew1 | refine below_set ?_ GE290.out | refine below_set ?_ GE298.out) | exact HB.out)⟩⟩
    case rest =>
     clear HC11
     try clear c1
     try clear c2
     try clear p2
     try clear c3
     try clear c6
     try clear c6b0
     try clear c6b1
     try clear c8
     try clear c8b0
     try clear c8b1
     try clear c10
     try clear c10b0
     try clear c10b1
     try clear c15
     try clear c18
     try clear c19
     try clear c27
     try clear c30
     try clear c30b0
     try clear c30b1
     try clear c30b2
     try clear hcz14_0
     try clear hcz14_1
     try clear hcz14_2
     try clear hcz14_3
     try clear hcz19_0
     try clear hcz19_1
     try clear hcz19_2
     try clear hcz19_3
     try clear hcz21_0
     try clear hcz21_1
     try clear hcz21_2
     try clear hcz21_3
     try clear hcz23_0
     try clear hcz23_1
     try clear hcz23_2
     try clear hcz23_3
     try clear hcz24_0
     try clear hcz24_1
     try clear hcz24_2
     try clear hcz24_3
     try clear hcz26_0
     try clear hcz26_1
     try clear hcz26_2
     try clear hcz26_3
     try clear hcz27_0
     try clear hcz27_1
     try clear hcz27_2
     try clear hcz27_3
     try clear hfz14_0
     try clear hfz14_1
     try clear hfz14_2
     try clear hfz14_3
     try clear hfz19_0
     try clear hfz19_1
     try clear hfz19_2
     try clear hfz19_3
     try clear hfz21_0
     try clear hfz21_1
     try clear hfz21_2
     try clear hfz21_3
     try clear hfz23_0
     try clear hfz23_1
     try clear hfz23_2
     try clear hfz23_3
     try clear hfz24_0
     try clear hfz24_1
     try clear hfz24_2
     try clear hfz24_3
     try clear hfz26_0
     try clear hfz26_1
     try clear hfz26_2
     try clear hfz26_3
     try clear hfz27_0
     try clear hfz27_1
     try clear hfz27_2
     try clear hfz27_3
     obtain ⟨kq, x61_10, rfl, HA, HJ10, HO_291003, HO_299003, BK290, BK298, HB⟩ := hcut
     cases kq with
     | zero => exact absurd HA.out (by simp [graftwoodref03_Cmp.j0])
     | succ kj10 =>
      have H := HA.out
      clear HA
      simp only [graftwoodref03_Cmp.j0] at H
      by_cases c31 : x61_10 = true
      ·subst c31
       have H1 : (some 0) = some r := by rw [if_pos rfl] at H; exact H
       clear H
       have H := H1
       clear H1
       obtain rfl := Option.some.inj H
       go_wp2
       go_ret
       exact ⟨by first | rfl | (simp [errW_none, errW_some] <;> rfl) | (simp [*, errW_none, errW_some] <;> rfl), by repeat (first | (with_reducible first | exact HB.out | apply below_alloc | apply pw_below_drewN | apply below_drew1 | refine below_set ?_ GE290.out | refine below_set ?_ GE298.out) | exact HB.out)⟩
      ·replace c31 := Bool.eq_false_iff.mpr c31
       subst c31
       have H1 : (if (t286.length : Int) = 0 then (some 1) else (if (t294.length : Int) = 0 then (some (-1)) else (graftwoodref03_Cmp.l0 kj10 (t286.length : Int) (t294.length : Int) 0 t283 t284 t285 t286 t291 t292 t293 t294))) = some r := by rw [if_neg (show ¬ (false = true) by decide)] at H; exact H
       clear H
       have H := H1
       clear H1
       by_cases c32 : (t286.length : Int) = 0
       ·rw [if_pos c32] at H
        have c32b0 : ((t286.length : Int) == 0) = true := beq_iff_eq.mpr c32
        have c32b1 : ((t286.length : Int) != 0) = false := bne_eq_false_iff_eq.mpr c32
        clear c32
        obtain rfl := Option.some.inj H
        go_wp2
        go_ret
        exact ⟨by first | rfl | (simp [errW_none, errW_some] <;> rfl) | (simp [*, errW_none, errW_some] <;> rfl), by repeat (first | (with_reducible first | exact HB.out | apply below_alloc | apply pw_below_drewN | apply below_drew1 | refine below_set ?_ GE290.out | refine below_set ?_ GE298.out) | exact HB.out)⟩
       ·rw [if_neg c32] at H
        have c32b0 : ((t286.length : Int) == 0) = false := beq_eq_false_iff_ne.mpr c32
        have c32b1 : ((t286.length : Int) != 0) = true := bne_iff_ne.mpr c32
        have c32b2 : ¬ (t286 = []) := fun h_ => c32 (by rw [h_]; rfl)
        by_cases c33 : (t294.length : Int) = 0
        ·rw [if_pos c33] at H
         have c33b0 : ((t294.length : Int) == 0) = true := beq_iff_eq.mpr c33
         have c33b1 : ((t294.length : Int) != 0) = false := bne_eq_false_iff_eq.mpr c33
         clear c33
         obtain rfl := Option.some.inj H
         go_wp2
         go_ret
         exact ⟨by first | rfl | (simp [errW_none, errW_some] <;> rfl) | (simp [*, errW_none, errW_some] <;> rfl), by repeat (first | (with_reducible first | exact HB.out | apply below_alloc | apply pw_below_drewN | apply below_drew1 | refine below_set ?_ GE290.out | refine below_set ?_ GE298.out) | exact HB.out)⟩
        ·rw [if_neg c33] at H
         have c33b0 : ((t294.length : Int) == 0) = false := beq_eq_false_iff_ne.mpr c33
         have c33b1 : ((t294.length : Int) != 0) = true := bne_iff_ne.mpr c33
         have c33b2 : ¬ (t294 = []) := fun h_ => c33 (by rw [h_]; rfl)
         have H' := Aside0.mk H
         clear H
         go_wp2
         go_loopg [14] kj10 (fun kq v14 w' => ∃ (x14_2 : Int), v14 = .int .i64 x14_2 ∧ Aside0 (graftwoodref03_Cmp.l0 kq (t286.length : Int) (t294.length : Int) x14_2 t283 t284 t285 t286 t291 t292 t293 t294 = some r) ∧ Aside0 (kq ≤ kj10) ∧ Aside0 (Kd.R Kd.string 9 w' w.heap.size (fun k_ => some k_ ≠ ((.slice Ao20 t294.length co20) : Value).ownBlock) (.slice Ao15 t286.length co15) t286) ∧ Aside0 (Kd.R Kd.string 9 w' w.heap.size (fun k_ => some k_ ≠ ((.slice Ao15 t286.length co15) : Value).ownBlock) (.slice Ao20 t294.length co20) t294) ∧ Aside0 (w'.heap[gb290]? = some (.cells #[.string t283, .string t284, .string t285, (.slice Ao15 t286.length co15)] 36 (0, 0))) ∧ Aside0 (w'.heap[gb298]? = some (.cells #[.string t291, .string t292, .string t293, (.slice Ao20 t294.length co20)] 36 (0, 0))) ∧ Aside0 (Below w.heap.size w w'))
         case atStart => exact ⟨(0), (by first | rfl | (simp; done) | (simp [*]; done)), H', ⟨Nat.le_refl _⟩, ⟨by (with_reducible repeat (first | apply Kd.R_alloc | apply Kd.R_drewN | apply Kd.R_drew)); exact HO_291003.out⟩, ⟨by (with_reducible repeat (first | apply Kd.R_alloc | apply Kd.R_drewN | apply Kd.R_drew)); exact HO_299003.out⟩, ⟨by (with_reducible repeat (first | refine blk_drewN ?_ _ | refine blk_drew ?_ | refine blk_alloc ?_ _)); exact BK290.out⟩, ⟨by (with_reducible repeat (first | refine blk_drewN ?_ _ | refine blk_drew ?_ | refine blk_alloc ?_ _)); exact BK298.out⟩, ⟨by repeat (first | (with_reducible first | exact HB.out | apply below_alloc | apply pw_below_drewN | apply below_drew1 | refine below_set ?_ GE290.out | refine below_set ?_ GE298.out) | exact HB.out)⟩⟩
         case round =>
          clear H'
          try clear c1
          try clear c2
          try clear p2
          try clear c3
          try clear c6
          try clear c6b0
          try clear c6b1
          try clear c8
          try clear c8b0
          try clear c8b1
          try clear c10
          try clear c10b0
          try clear c10b1
          try clear c15
          try clear c18
          try clear c19
          try clear c27
          try clear c30
          try clear c30b0
          try clear c30b1
          try clear c30b2
          try clear c31
          try clear c32
          try clear c32b0
          try clear c32b1
          try clear c32b2
          try clear c33
          try clear c33b0
          try clear c33b1
          try clear c33b2
          try clear hcz14_0
          try clear hcz14_1
          try clear hcz14_2
          try clear hcz14_3
          try clear hcz19_0
          try clear hcz19_1
          try clear hcz19_2
          try clear hcz19_3
          try clear hcz21_0
          try clear hcz21_1
          try clear hcz21_2
          try clear hcz21_3
          try clear hcz23_0
          try clear hcz23_1
          try clear hcz23_2
          try clear hcz23_3
          try clear hcz24_0
          try clear hcz24_1
          try clear hcz24_2
          try clear hcz24_3
          try clear hcz26_0
          try clear hcz26_1
          try clear hcz26_2
          try clear hcz26_3
          try clear hcz27_0
          try clear hcz27_1
          try clear hcz27_2
          try clear hcz27_3
          try clear hfz14_0
          try clear hfz14_1
          try clear hfz14_2
          try clear hfz14_3
          try clear hfz19_0
          try clear hfz19_1
          try clear hfz19_2
          try clear hfz19_3
          try clear hfz21_0
          try clear hfz21_1
          try clear hfz21_2
          try clear hfz21_3
          try clear hfz23_0
          try clear hfz23_1
          try clear hfz23_2
          try clear hfz23_3
          try clear hfz24_0
          try clear hfz24_1
          try clear hfz24_2
          try clear hfz24_3
          try clear hfz26_0
          try clear hfz26_1
          try clear hfz26_2
          try clear hfz26_3
          try clear hfz27_0
          try clear hfz27_1
          try clear hfz27_2
          try clear hfz27_3
          try clear p2
          obtain ⟨x14_2, rfl, HA, HK2, HO_291003, HO_299003, BK290, BK298, HB⟩ := hrel
          cases gk with
          | zero => exact absurd HA.out (by simp [graftwoodref03_Cmp.l0])
          | succ k2 =>
           have H := HA.out
           clear HA
           simp only [graftwoodref03_Cmp.l0] at H
           have HC34 := Aside0.mk H
           clear H
           go_upto_region 20 with (fail)
           go_cut [73] (fun v73 wc => ∃ (kq : Nat) (x73_33 : Bool), v73 = .bool x73_33 ∧ Aside0 (graftwoodref03_Cmp.j2 kq (t286.length : Int) (t294.length : Int) x14_2 x73_33 t283 t284 t285 t286 t291 t292 t293 t294 = some r) ∧ Aside0 (kq ≤ k2) ∧ Aside0 (Kd.R Kd.string 9 wc w.heap.size (fun k_ => some k_ ≠ ((.slice Ao20 t294.length co20) : Value).ownBlock) (.slice Ao15 t286.length co15) t286) ∧ Aside0 (Kd.R Kd.string 9 wc w.heap.size (fun k_ => some k_ ≠ ((.slice Ao15 t286.length co15) : Value).ownBlock) (.slice Ao20 t294.length co20) t294) ∧ Aside0 (wc.heap[gb290]? = some (.cells #[.string t283, .string t284, .string t285, (.slice Ao15 t286.length co15)] 36 (0, 0))) ∧ Aside0 (wc.heap[gb298]? = some (.cells #[.string t291, .string t292, .string t293, (.slice Ao20 t294.length co20)] 36 (0, 0))) ∧ Aside0 (Below w.heap.size w wc))
           case first =>
            have H := HC34.out
            clear HC34
            by_cases c35 : x14_2 < (t286.length : Int)
            ·rw [if_pos c35] at H
             have c35b0 : decide (x14_2 < (t286.length : Int)) = true := decide_eq_true c35
             clear c35
             (first | rw [c35b0] | (simp only [i64_w, i32_w]; rw [c35b0]) | skip)
             have H' := Aside0.mk H
             clear H
             go_wp2
             go_meet
             case rel => exact ⟨_, (decide (x14_2 < (t294.length : Int))), (by first | rfl | (simp; done) | (simp [*]; done)), H', ⟨by have := HJ10.out; have := HK2.out; first | omega | exact Nat.le_refl _⟩, ⟨by (with_reducible repeat (first | apply Kd.R_alloc | apply Kd.R_drewN | apply Kd.R_drew)); exact HO_291003.out⟩, ⟨by (with_reducible repeat (first | apply Kd.R_alloc | apply Kd.R_drewN | apply Kd.R_drew)); exact HO_299003.out⟩, ⟨by (with_reducible repeat (first | refine blk_drewN ?_ _ | refine blk_drew ?_ | refine blk_alloc ?_ _)); exact BK290.out⟩, ⟨by (with_reducible repeat (first | refine blk_drewN ?_ _ | refine blk_drew ?_ | refine blk_alloc ?_ _)); exact BK298.out⟩, ⟨by repeat (first | (with_reducible first | exact HB.out | apply below_alloc | apply pw_below_drewN | apply below_drew1 | refine below_set ?_ GE290.out | refine below_set ?_ GE298.out) | exact HB.out)⟩⟩
            ·rw [if_neg c35] at H
             have c35b0 : decide (x14_2 < (t286.length : Int)) = false := decide_eq_false c35
             clear c35
             (first | rw [c35b0] | (simp only [i64_w, i32_w]; rw [c35b0]) | skip)
             have H' := Aside0.mk H
             clear H
             go_wp2
             go_meet
             case rel => exact ⟨_, (false), (by first | rfl | (simp; done) | (simp [*]; done)), H', ⟨by have := HJ10.out; have := HK2.out; first | omega | exact Nat.le_refl _⟩, ⟨by (with_reducible repeat (first | apply Kd.R_alloc | apply Kd.R_drewN | apply Kd.R_drew)); exact HO_291003.out⟩, ⟨by (with_reducible repeat (first | apply Kd.R_alloc | apply Kd.R_drewN | apply Kd.R_drew)); exact HO_299003.out⟩, ⟨by (with_reducible repeat (first | refine blk_drewN ?_ _ | refine blk_drew ?_ | refine blk_alloc ?_ _)); exact BK290.out⟩, ⟨by (with_reducible repeat (first | refine blk_drewN ?_ _ | refine blk_drew ?_ | refine blk_alloc ?_ _)); exact BK298.out⟩, ⟨by repeat (first | (with_reducible first | exact HB.out | apply below_alloc | apply pw_below_drewN | apply below_drew1 | refine below_set ?_ GE290.out | refine below_set ?_ GE298.out) | exact HB.out)⟩⟩
           case rest =>
            clear HC34
            try clear c1
            try clear c2
            try clear p2
            try clear c3
            try clear c6
            try clear c6b0
            try clear c6b1
            try clear c8
            try clear c8b0
            try clear c8b1
            try clear c10
            try clear c10b0
            try clear c10b1
            try clear c15
            try clear c18
            try clear c19
            try clear c27
            try clear c30
            try clear c30b0
            try clear c30b1
            try clear c30b2
            try clear c31
            try clear c32
            try clear c32b0
            try clear c32b1
            try clear c32b2
            try clear c33
            try clear c33b0
            try clear c33b1
            try clear c33b2
            try clear c35
            try clear c35b0
            try clear hcz14_0
            try clear hcz14_1
            try clear hcz14_2
            try clear hcz14_3
            try clear hcz19_0
            try clear hcz19_1
            try clear hcz19_2
            try clear hcz19_3
            try clear hcz21_0
            try clear hcz21_1
            try clear hcz21_2
            try clear hcz21_3
            try clear hcz23_0
            try clear hcz23_1
            try clear hcz23_2
            try clear hcz23_3
            try clear hcz24_0
            try clear hcz24_1
            try clear hcz24_2
            try clear hcz24_3
            try clear hcz26_0
            try clear hcz26_1
            try clear hcz26_2
            try clear hcz26_3
            try clear hcz27_0
            try clear hcz27_1
            try clear hcz27_2
            try clear hcz27_3
            try clear hfz14_0
            try clear hfz14_1
            try clear hfz14_2
            try clear hfz14_3
            try clear hfz19_0
            try clear hfz19_1
            try clear hfz19_2
            try clear hfz19_3
            try clear hfz21_0
            try clear hfz21_1
            try clear hfz21_2
            try clear hfz21_3
            try clear hfz23_0
            try clear hfz23_1
            try clear hfz23_2
            try clear hfz23_3
            try clear hfz24_0
            try clear hfz24_1
            try clear hfz24_2
            try clear hfz24_3
            try clear hfz26_0
            try clear hfz26_1
            try clear hfz26_2
            try clear hfz26_3
            try clear hfz27_0
            try clear hfz27_1
            try clear hfz27_2
            try clear hfz27_3
            try clear p2
            obtain ⟨kq, x73_33, rfl, HA, HJ33, HO_291003, HO_299003, BK290, BK298, HB⟩ := hcut
            cases kq with
            | zero => exact absurd HA.out (by simp [graftwoodref03_Cmp.j2])
            | succ kj33 =>
             have H := HA.out
             clear HA
             simp only [graftwoodref03_Cmp.j2] at H
             by_cases c36 : x73_33 = true
             ·subst c36
              have H1 : (if 0 ≤ x14_2 then (if x14_2 < (t286.length : Int) then (if x14_2 < (t294.length : Int) then ((graftwoodref03_words.f kj33 (rdOf ByteArray.empty t286 x14_2) (rdOf ByteArray.empty t294 x14_2)).bind fun t304 => (if t304 = 0 then (graftwoodref03_Cmp.l0 kj33 (t286.length : Int) (t294.length : Int) (wrap64 (x14_2 + 1)) t283 t284 t285 t286 t291 t292 t293 t294) else (some t304))) else (none)) else (none)) else (none)) = some r := by rw [if_pos rfl] at H; exact H
              clear H
              have H := H1
              clear H1
              by_cases c37 : 0 ≤ x14_2
              ·rw [if_pos c37] at H
               have c37b0 : decide (0 ≤ x14_2) = true := decide_eq_true c37
               clear c37
               by_cases c38 : x14_2 < (t286.length : Int)
               ·rw [if_pos c38] at H
                have c38b0 : decide (x14_2 < (t286.length : Int)) = true := decide_eq_true c38
                clear c38
                by_cases c39 : x14_2 < (t294.length : Int)
                ·rw [if_pos c39] at H
                 have c39b0 : decide (x14_2 < (t294.length : Int)) = true := decide_eq_true c39
                 clear c39
                 replace H := Option.bind_eq_some_iff.mp H
                 obtain ⟨t304, A400, H⟩ := H
                 replace H : (if t304 = 0 then (graftwoodref03_Cmp.l0 kj33 (t286.length : Int) (t294.length : Int) (wrap64 (x14_2 + 1)) t283 t284 t285 t286 t291 t292 t293 t294) else (some t304)) = some r := H
                 have A40 := Aside0.mk A400
                 clear A400
                 by_cases c41 : t304 = 0
                 ·rw [if_pos c41] at H
                  have c41b0 : (t304 == 0) = true := beq_iff_eq.mpr c41
                  have c41b1 : (t304 != 0) = false := bne_eq_false_iff_eq.mpr c41
                  clear c41
                  have H' := Aside0.mk H
                  clear H
                  try go_wp2
                  have n0_ := Aside0.mk (Kd.R_drew HO_291003.out)
                  have n1_ := Aside0.mk (Kd.R_drew HO_299003.out)
                  have n2_ := Aside0.mk (blk_drew BK290.out)
                  have n3_ := Aside0.mk (blk_drew BK298.out)
                  have n4_ := Aside0.mk (below_drew1 HB.out)
                  clear HO_291003
                  clear HO_299003
                  clear BK290
                  clear BK298
                  clear HB
                  have HO_291003 := n0_
                  have HO_299003 := n1_
                  have BK290 := n2_
                  have BK298 := n3_
                  have HB := n4_
                  clear n0_ n1_ n2_ n3_ n4_
                  have p302 : 0 ≤ (x14_2 : Int) := of_decide_eq_true (by first | (with_reducible assumption) | assumption)
                  have q302 : x14_2 < (t286.length : Int) := of_decide_eq_true (by first | (with_reducible assumption) | assumption)
                  obtain ⟨ad302, e302, hx302_0⟩ := Kd.at_string (Kd.R_reads' HO_291003.out).2.2 x14_2 p302 q302
                  cases e302
                  replace p302 := eq_true p302
                  replace q302 := eq_true q302
                  have p303 : 0 ≤ (x14_2 : Int) := of_decide_eq_true (by first | (with_reducible assumption) | assumption)
                  have q303 : x14_2 < (t294.length : Int) := of_decide_eq_true (by first | (with_reducible assumption) | assumption)
                  obtain ⟨ad303, e303, hx303_0⟩ := Kd.at_string (Kd.R_reads' HO_299003.out).2.2 x14_2 p303 q303
                  cases e303
                  replace p303 := eq_true p303
                  replace q303 := eq_true q303
                  refine start_ (n := 12) (S := fun w' => w'.cell? ⟨gb290, 0, none⟩ = some (.string t283) ∧ w'.cell? ⟨gb290, 1, none⟩ = some (.string t284) ∧ w'.cell? ⟨gb290, 2, none⟩ = some (.string t285) ∧ w'.cell? ⟨gb290, 3, none⟩ = some (.slice (some ad302) t286.length co15) ∧ w'.cell? ⟨gb298, 0, none⟩ = some (.string t291) ∧ w'.cell? ⟨gb298, 1, none⟩ = some (.string t292) ∧ w'.cell? ⟨gb298, 2, none⟩ = some (.string t293) ∧ w'.cell? ⟨gb298, 3, none⟩ = some (.slice (some ad303) t294.length co20) ∧ w'.cell? (ad302.add (x14_2).toNat) = some (.string (rdOf ByteArray.empty t286 x14_2)) ∧ w'.cell? (ad303.add (x14_2).toNat) = some (.string (rdOf ByteArray.empty t294 x14_2))) (ds := []) #[false, false, false, false, false, false, false, false, false, false, false, false] (by kernel_rfl) rfl rfl ⟨(blk_cell BK290.out 0).trans rfl, (blk_cell BK290.out 1).trans rfl, (blk_cell BK290.out 2).trans rfl, (blk_cell BK290.out 3).trans rfl, (blk_cell BK298.out 0).trans rfl, (blk_cell BK298.out 1).trans rfl, (blk_cell BK298.out 2).trans rfl, (blk_cell BK298.out 3).trans rfl, hx302_0, hx303_0⟩ (fun hHeld => ?_); refine with_tabW graftwoodref03_Cmp.tab22 graftwoodref03_Cmp.bits22 (fun HT_ HW_ => ?_)
                  generalize wc.drew = w42 at HO_291003 HO_299003 BK290 BK298 HB hx302_0 hx303_0 hHeld ⊢
                  refine pure_ (i := 0) (N := some 76) (v := ?_) (a' := ?_) #[true, false, false, false, false, false, false, false, false, false, false, false] rfl rfl (any_of HT_.out (by kernel_rfl)) (fun _ _ _ h => h) (Or.inl ⟨by rfl, ?_⟩) ?_ ?_
                  rotate_left
                  ·intro w'
                   go_simp
                   with_reducible rfl
                  rotate_left
                  ·simp only [Act.put, List.setIfInBounds_toArray, List.set_cons_zero, List.set_cons_succ, i64_w, i32_w]
                   rfl
                  refine pure_ (i := 2) (N := some 78) (v := ?_) (a' := ?_) #[true, false, true, false, false, false, false, false, false, false, false, false] rfl rfl (any_of HT_.out (by kernel_rfl)) (fun _ _ _ h => h) (Or.inl ⟨by rfl, ?_⟩) ?_ ?_
                  rotate_left
                  ·intro w'
                   go_simp
                   with_reducible rfl
                  rotate_left
                  ·simp only [Act.put, List.setIfInBounds_toArray, List.set_cons_zero, List.set_cons_succ, i64_w, i32_w]
                   rfl
                  refine pure_ (i := 5) (N := some 81) (v := ?_) (a' := ?_) #[true, false, true, false, false, true, false, false, false, false, false, false] rfl rfl (any_of HT_.out (by kernel_rfl)) (fun _ _ _ h => h) (Or.inl ⟨by rfl, ?_⟩) ?_ ?_
                  rotate_left
                  ·intro w'
                   go_simp
                   with_reducible rfl
                  rotate_left
                  ·simp only [Act.put, List.setIfInBounds_toArray, List.set_cons_zero, List.set_cons_succ, i64_w, i32_w]
                   rfl
                  refine pure_ (i := 7) (N := some 83) (v := ?_) (a' := ?_) #[true, false, true, false, false, true, false, true, false, false, false, false] rfl rfl (any_of HT_.out (by kernel_rfl)) (fun _ _ _ h => h) (Or.inl ⟨by rfl, ?_⟩) ?_ ?_
                  rotate_left
                  ·intro w'
                   go_simp
                   with_reducible rfl
                  rotate_left
                  ·simp only [Act.put, List.setIfInBounds_toArray, List.set_cons_zero, List.set_cons_succ, i64_w, i32_w]
                   rfl
                  refine take_ (i := 1) (N := some 77) (v := ?_) (a' := ?_) #[true, true, true, false, false, true, false, true, false, false, false, false] rfl rfl (take_ofW HT_.out HW_.out (by kernel_rfl)) (fun _ _ _ h => h) (Or.inl ⟨by rfl, ?_⟩) hHeld ?_ ?_
                  rotate_left
                  ·rintro w' ⟨s0, s1, s2, s3, s4, s5, s6, s7, s8, s9⟩
                   go_simp
                   with_reducible rfl
                  rotate_left
                  ·simp only [Act.put, List.setIfInBounds_toArray, List.set_cons_zero, List.set_cons_succ, i64_w, i32_w]
                   rfl
                  refine pure_ (i := 3) (N := some 79) (v := ?_) (a' := ?_) #[true, true, true, true, false, true, false, true, false, false, false, false] rfl rfl (any_of HT_.out (by kernel_rfl)) (fun _ _ _ h => h) (Or.inl ⟨by rfl, ?_⟩) ?_ ?_
                  rotate_left
                  ·intro w'
                   go_simp
                   with_reducible rfl
                  rotate_left
                  ·simp only [Act.put, List.setIfInBounds_toArray, List.set_cons_zero, List.set_cons_succ, i64_w, i32_w]
                   rfl
                  refine take_ (i := 4) (N := some 80) (v := ?_) (a' := ?_) #[true, true, true, true, true, true, false, true, false, false, false, false] rfl rfl (take_ofW HT_.out HW_.out (by kernel_rfl)) (fun _ _ _ h => h) (Or.inl ⟨by rfl, ?_⟩) hHeld ?_ ?_
                  rotate_left
                  ·rintro w' ⟨s0, s1, s2, s3, s4, s5, s6, s7, s8, s9⟩
                   go_simp
                   with_reducible rfl
                  rotate_left
                  ·simp only [Act.put, List.setIfInBounds_toArray, List.set_cons_zero, List.set_cons_succ, i64_w, i32_w]
                   rfl
                  refine take_ (i := 6) (N := some 82) (v := ?_) (a' := ?_) #[true, true, true, true, true, true, true, true, false, false, false, false] rfl rfl (take_ofW HT_.out HW_.out (by kernel_rfl)) (fun _ _ _ h => h) (Or.inl ⟨by rfl, ?_⟩) hHeld ?_ ?_
                  rotate_left
                  ·rintro w' ⟨s0, s1, s2, s3, s4, s5, s6, s7, s8, s9⟩
                   go_simp
                   with_reducible rfl
                  rotate_left
                  ·simp only [Act.put, List.setIfInBounds_toArray, List.set_cons_zero, List.set_cons_succ, i64_w, i32_w]
                   rfl
                  refine pure_ (i := 8) (N := some 84) (v := ?_) (a' := ?_) #[true, true, true, true, true, true, true, true, true, false, false, false] rfl rfl (any_of HT_.out (by kernel_rfl)) (fun _ _ _ h => h) (Or.inl ⟨by rfl, ?_⟩) ?_ ?_
                  rotate_left
                  ·intro w'
                   go_simp
                   with_reducible rfl
                  rotate_left
                  ·simp only [Act.put, List.setIfInBounds_toArray, List.set_cons_zero, List.set_cons_succ, i64_w, i32_w]
                   rfl
                  refine take_ (i := 9) (N := some 85) (v := ?_) (a' := ?_) #[true, true, true, true, true, true, true, true, true, true, false, false] rfl rfl (take_ofW HT_.out HW_.out (by kernel_rfl)) (fun _ _ _ h => h) (Or.inl ⟨by rfl, ?_⟩) hHeld ?_ ?_
                  rotate_left
                  ·rintro w' ⟨s0, s1, s2, s3, s4, s5, s6, s7, s8, s9⟩
                   go_simp
                   with_reducible rfl
                  rotate_left
                  ·simp only [Act.put, List.setIfInBounds_toArray, List.set_cons_zero, List.set_cons_succ, i64_w, i32_w]
                   rfl
                  refine one_ (i := 10) (N := some 86) #[true, true, true, true, true, true, true, true, true, true, true, false] rfl rfl (one_of HT_.out (by kernel_rfl)) (by decide) (fun K hK => ?_)
                  refine goes_ Tryd.func28 (by kernel_rfl) rfl #[.string (rdOf ByteArray.empty t286 x14_2), .string (rdOf ByteArray.empty t294 x14_2)] (by rfl) rfl rfl (by (try simp only [List.map_toArray, List.map_cons, List.map_nil]); first | done | rfl | (simp only [List.length_drop, List.length_take]; rfl)) ?_
                  with_reducible refine (graftwoodref03_words.calls kj33 (rdOf ByteArray.empty t286 x14_2) (rdOf ByteArray.empty t294 x14_2) t304 _ A40.out).mono ?_
                  rintro e w43 ⟨rfl, hb⟩
                  have HS8_ := (hb.cell (World.block_lt_of_cell? _ _ (hHeld.2.2.2.2.2.2.2.2.1))).trans (hHeld.2.2.2.2.2.2.2.2.1)
                  have HS9_ := (hb.cell (World.block_lt_of_cell? _ _ (hHeld.2.2.2.2.2.2.2.2.2))).trans (hHeld.2.2.2.2.2.2.2.2.2)
                  refine ⟨_, rfl, ?_⟩
                  have n0_ := Aside0.mk (Kd.R_below (by (with_reducible repeat (first | apply Kd.R_alloc | apply Kd.R_drewN | apply Kd.R_drew)); exact HO_291003.out) hb)
                  have n1_ := Aside0.mk (Kd.R_below (by (with_reducible repeat (first | apply Kd.R_alloc | apply Kd.R_drewN | apply Kd.R_drew)); exact HO_299003.out) hb)
                  have n2_ := Aside0.mk (blk_below (g := gb290) (o := .cells #[.string t283, .string t284, .string t285, .slice (some ad302) t286.length co15] 36 (0, 0)) (by (with_reducible repeat (first | refine blk_drewN ?_ _ | refine blk_drew ?_ | refine blk_alloc ?_ _)); exact BK290.out) hb)
                  have n3_ := Aside0.mk (blk_below (g := gb298) (o := .cells #[.string t291, .string t292, .string t293, .slice (some ad303) t294.length co20] 36 (0, 0)) (by (with_reducible repeat (first | refine blk_drewN ?_ _ | refine blk_drew ?_ | refine blk_alloc ?_ _)); exact BK298.out) hb)
                  have n4_ := Aside0.mk (below_step (by repeat (first | (with_reducible first | exact HB.out | apply below_alloc | apply pw_below_drewN | apply below_drew1 | refine below_set ?_ GE290.out | refine below_set ?_ GE298.out) | exact HB.out)) hb)
                  clear HO_291003
                  clear HO_299003
                  clear BK290
                  clear BK298
                  clear HB
                  have HO_291003 := n0_
                  have HO_299003 := n1_
                  have BK290 := n2_
                  have BK298 := n3_
                  have HB := n4_
                  clear n0_ n1_ n2_ n3_ n4_
                  (try clear hb)
                  (try clear hb2)
                  (try clear hk)
                  (try clear hi)
                  refine hK.out _ _ ⟨(blk_cell BK290.out 0).trans rfl, (blk_cell BK290.out 1).trans rfl, (blk_cell BK290.out 2).trans rfl, (blk_cell BK290.out 3).trans rfl, (blk_cell BK298.out 0).trans rfl, (blk_cell BK298.out 1).trans rfl, (blk_cell BK298.out 2).trans rfl, (blk_cell BK298.out 3).trans rfl, HS8_, HS9_⟩ (fun hHeld => ?_)
                  clear hK K
                  refine norm_ (a' := ?_) ?_ ?_
                  rotate_left
                  ·show Act.put _ (some 86) _ = _
                   simp only [Act.put, List.setIfInBounds_toArray, List.set_cons_zero, List.set_cons_succ, i64_w, i32_w]
                   rfl
                  refine pure_ (i := 11) (N := some 15) (v := ?_) (a' := ?_) #[true, true, true, true, true, true, true, true, true, true, true, true] rfl rfl (any_of HT_.out (by kernel_rfl)) (fun _ _ _ h => h) (Or.inl ⟨by rfl, ?_⟩) ?_ ?_
                  rotate_left
                  ·intro w'
                   go_simp
                   with_reducible rfl
                  rotate_left
                  ·simp only [Act.put, List.setIfInBounds_toArray, List.set_cons_zero, List.set_cons_succ, i64_w, i32_w]
                   rfl
                  refine done_ (done_of HT_.out (by kernel_rfl)) ?_
                  try go_wp2
                  go_roundg kj33
                  case measure => have := HJ10.out; have := HK2.out; have := HJ33.out; omega
                  case rel => exact ⟨(wrap64 (x14_2 + 1)), (by first | rfl | (simp; done) | (simp [*]; done)), H', ⟨by have := HJ10.out; have := HK2.out; have := HJ33.out; omega⟩, ⟨by (with_reducible repeat (first | apply Kd.R_alloc | apply Kd.R_drewN | apply Kd.R_drew)); exact HO_291003.out⟩, ⟨by (with_reducible repeat (first | apply Kd.R_alloc | apply Kd.R_drewN | apply Kd.R_drew)); exact HO_299003.out⟩, ⟨by (with_reducible repeat (first | refine blk_drewN ?_ _ | refine blk_drew ?_ | refine blk_alloc ?_ _)); exact BK290.out⟩, ⟨by (with_reducible repeat (first | refine blk_drewN ?_ _ | refine blk_drew ?_ | refine blk_alloc ?_ _)); exact BK298.out⟩, ⟨by repeat (first | (with_reducible first | exact HB.out | apply below_alloc | apply pw_below_drewN | apply below_drew1 | refine below_set ?_ GE290.out | refine below_set ?_ GE298.out) | exact HB.out)⟩⟩
                 ·rw [if_neg c41] at H
                  have c41b0 : (t304 == 0) = false := beq_eq_false_iff_ne.mpr c41
                  have c41b1 : (t304 != 0) = true := bne_iff_ne.mpr c41
                  obtain rfl := Option.some.inj H
                  try go_wp2
                  have n0_ := Aside0.mk (Kd.R_drew HO_291003.out)
                  have n1_ := Aside0.mk (Kd.R_drew HO_299003.out)
                  have n2_ := Aside0.mk (blk_drew BK290.out)
                  have n3_ := Aside0.mk (blk_drew BK298.out)
                  have n4_ := Aside0.mk (below_drew1 HB.out)
                  clear HO_291003
                  clear HO_299003
                  clear BK290
                  clear BK298
                  clear HB
                  have HO_291003 := n0_
                  have HO_299003 := n1_
                  have BK290 := n2_
                  have BK298 := n3_
                  have HB := n4_
                  clear n0_ n1_ n2_ n3_ n4_
                  have p302 : 0 ≤ (x14_2 : Int) := of_decide_eq_true (by first | (with_reducible assumption) | assumption)
                  have q302 : x14_2 < (t286.length : Int) := of_decide_eq_true (by first | (with_reducible assumption) | assumption)
                  obtain ⟨ad302, e302, hx302_0⟩ := Kd.at_string (Kd.R_reads' HO_291003.out).2.2 x14_2 p302 q302
                  cases e302
                  replace p302 := eq_true p302
                  replace q302 := eq_true q302
                  have p303 : 0 ≤ (x14_2 : Int) := of_decide_eq_true (by first | (with_reducible assumption) | assumption)
                  have q303 : x14_2 < (t294.length : Int) := of_decide_eq_true (by first | (with_reducible assumption) | assumption)
                  obtain ⟨ad303, e303, hx303_0⟩ := Kd.at_string (Kd.R_reads' HO_299003.out).2.2 x14_2 p303 q303
                  cases e303
                  replace p303 := eq_true p303
                  replace q303 := eq_true q303
                  refine start_ (n := 12) (S := fun w' => w'.cell? ⟨gb290, 0, none⟩ = some (.string t283) ∧ w'.cell? ⟨gb290, 1, none⟩ = some (.string t284) ∧ w'.cell? ⟨gb290, 2, none⟩ = some (.string t285) ∧ w'.cell? ⟨gb290, 3, none⟩ = some (.slice (some ad302) t286.length co15) ∧ w'.cell? ⟨gb298, 0, none⟩ = some (.string t291) ∧ w'.cell? ⟨gb298, 1, none⟩ = some (.string t292) ∧ w'.cell? ⟨gb298, 2, none⟩ = some (.string t293) ∧ w'.cell? ⟨gb298, 3, none⟩ = some (.slice (some ad303) t294.length co20) ∧ w'.cell? (ad302.add (x14_2).toNat) = some (.string (rdOf ByteArray.empty t286 x14_2)) ∧ w'.cell? (ad303.add (x14_2).toNat) = some (.string (rdOf ByteArray.empty t294 x14_2))) (ds := []) #[false, false, false, false, false, false, false, false, false, false, false, false] (by kernel_rfl) rfl rfl ⟨(blk_cell BK290.out 0).trans rfl, (blk_cell BK290.out 1).trans rfl, (blk_cell BK290.out 2).trans rfl, (blk_cell BK290.out 3).trans rfl, (blk_cell BK298.out 0).trans rfl, (blk_cell BK298.out 1).trans rfl, (blk_cell BK298.out 2).trans rfl, (blk_cell BK298.out 3).trans rfl, hx302_0, hx303_0⟩ (fun hHeld => ?_); refine with_tabW graftwoodref03_Cmp.tab22 graftwoodref03_Cmp.bits22 (fun HT_ HW_ => ?_)
                  generalize wc.drew = w44 at HO_291003 HO_299003 BK290 BK298 HB hx302_0 hx303_0 hHeld ⊢
                  refine pure_ (i := 0) (N := some 76) (v := ?_) (a' := ?_) #[true, false, false, false, false, false, false, false, false, false, false, false] rfl rfl (any_of HT_.out (by kernel_rfl)) (fun _ _ _ h => h) (Or.inl ⟨by rfl, ?_⟩) ?_ ?_
                  rotate_left
                  ·intro w'
                   go_simp
                   with_reducible rfl
                  rotate_left
                  ·simp only [Act.put, List.setIfInBounds_toArray, List.set_cons_zero, List.set_cons_succ, i64_w, i32_w]
                   rfl
                  refine pure_ (i := 2) (N := some 78) (v := ?_) (a' := ?_) #[true, false, true, false, false, false, false, false, false, false, false, false] rfl rfl (any_of HT_.out (by kernel_rfl)) (fun _ _ _ h => h) (Or.inl ⟨by rfl, ?_⟩) ?_ ?_
                  rotate_left
                  ·intro w'
                   go_simp
                   with_reducible rfl
                  rotate_left
                  ·simp only [Act.put, List.setIfInBounds_toArray, List.set_cons_zero, List.set_cons_succ, i64_w, i32_w]
                   rfl
                  refine pure_ (i := 5) (N := some 81) (v := ?_) (a' := ?_) #[true, false, true, false, false, true, false, false, false, false, false, false] rfl rfl (any_of HT_.out (by kernel_rfl)) (fun _ _ _ h => h) (Or.inl ⟨by rfl, ?_⟩) ?_ ?_
                  rotate_left
                  ·intro w'
                   go_simp
                   with_reducible rfl
                  rotate_left
                  ·simp only [Act.put, List.setIfInBounds_toArray, List.set_cons_zero, List.set_cons_succ, i64_w, i32_w]
                   rfl
                  refine pure_ (i := 7) (N := some 83) (v := ?_) (a' := ?_) #[true, false, true, false, false, true, false, true, false, false, false, false] rfl rfl (any_of HT_.out (by kernel_rfl)) (fun _ _ _ h => h) (Or.inl ⟨by rfl, ?_⟩) ?_ ?_
                  rotate_left
                  ·intro w'
                   go_simp
                   with_reducible rfl
                  rotate_left
                  ·simp only [Act.put, List.setIfInBounds_toArray, List.set_cons_zero, List.set_cons_succ, i64_w, i32_w]
                   rfl
                  refine take_ (i := 1) (N := some 77) (v := ?_) (a' := ?_) #[true, true, true, false, false, true, false, true, false, false, false, false] rfl rfl (take_ofW HT_.out HW_.out (by kernel_rfl)) (fun _ _ _ h => h) (Or.inl ⟨by rfl, ?_⟩) hHeld ?_ ?_
                  rotate_left
                  ·rintro w' ⟨s0, s1, s2, s3, s4, s5, s6, s7, s8, s9⟩
                   go_simp
                   with_reducible rfl
                  rotate_left
                  ·simp only [Act.put, List.setIfInBounds_toArray, List.set_cons_zero, List.set_cons_succ, i64_w, i32_w]
                   rfl
                  refine pure_ (i := 3) (N := some 79) (v := ?_) (a' := ?_) #[true, true, true, true, false, true, false, true, false, false, false, false] rfl rfl (any_of HT_.out (by kernel_rfl)) (fun _ _ _ h => h) (Or.inl ⟨by rfl, ?_⟩) ?_ ?_
                  rotate_left
                  ·intro w'
                   go_simp
                   with_reducible rfl
                  rotate_left
                  ·simp only [Act.put, List.setIfInBounds_toArray, List.set_cons_zero, List.set_cons_succ, i64_w, i32_w]
                   rfl
                  refine take_ (i := 4) (N := some 80) (v := ?_) (a' := ?_) #[true, true, true, true, true, true, false, true, false, false, false, false] rfl rfl (take_ofW HT_.out HW_.out (by kernel_rfl)) (fun _ _ _ h => h) (Or.inl ⟨by rfl, ?_⟩) hHeld ?_ ?_
                  rotate_left
                  ·rintro w' ⟨s0, s1, s2, s3, s4, s5, s6, s7, s8, s9⟩
                   go_simp
                   with_reducible rfl
                  rotate_left
                  ·simp only [Act.put, List.setIfInBounds_toArray, List.set_cons_zero, List.set_cons_succ, i64_w, i32_w]
                   rfl
                  refine take_ (i := 6) (N := some 82) (v := ?_) (a' := ?_) #[true, true, true, true, true, true, true, true, false, false, false, false] rfl rfl (take_ofW HT_.out HW_.out (by kernel_rfl)) (fun _ _ _ h => h) (Or.inl ⟨by rfl, ?_⟩) hHeld ?_ ?_
                  rotate_left
                  ·rintro w' ⟨s0, s1, s2, s3, s4, s5, s6, s7, s8, s9⟩
                   go_simp
                   with_reducible rfl
                  rotate_left
                  ·simp only [Act.put, List.setIfInBounds_toArray, List.set_cons_zero, List.set_cons_succ, i64_w, i32_w]
                   rfl
                  refine pure_ (i := 8) (N := some 84) (v := ?_) (a' := ?_) #[true, true, true, true, true, true, true, true, true, false, false, false] rfl rfl (any_of HT_.out (by kernel_rfl)) (fun _ _ _ h => h) (Or.inl ⟨by rfl, ?_⟩) ?_ ?_
                  rotate_left
                  ·intro w'
                   go_simp
                   with_reducible rfl
                  rotate_left
                  ·simp only [Act.put, List.setIfInBounds_toArray, List.set_cons_zero, List.set_cons_succ, i64_w, i32_w]
                   rfl
                  refine take_ (i := 9) (N := some 85) (v := ?_) (a' := ?_) #[true, true, true, true, true, true, true, true, true, true, false, false] rfl rfl (take_ofW HT_.out HW_.out (by kernel_rfl)) (fun _ _ _ h => h) (Or.inl ⟨by rfl, ?_⟩) hHeld ?_ ?_
                  rotate_left
                  ·rintro w' ⟨s0, s1, s2, s3, s4, s5, s6, s7, s8, s9⟩
                   go_simp
                   with_reducible rfl
                  rotate_left
                  ·simp only [Act.put, List.setIfInBounds_toArray, List.set_cons_zero, List.set_cons_succ, i64_w, i32_w]
                   rfl
                  refine one_ (i := 10) (N := some 86) #[true, true, true, true, true, true, true, true, true, true, true, false] rfl rfl (one_of HT_.out (by kernel_rfl)) (by decide) (fun K hK => ?_)
                  refine goes_ Tryd.func28 (by kernel_rfl) rfl #[.string (rdOf ByteArray.empty t286 x14_2), .string (rdOf ByteArray.empty t294 x14_2)] (by rfl) rfl rfl (by (try simp only [List.map_toArray, List.map_cons, List.map_nil]); first | done | rfl | (simp only [List.length_drop, List.length_take]; rfl)) ?_
                  with_reducible refine (graftwoodref03_words.calls kj33 (rdOf ByteArray.empty t286 x14_2) (rdOf ByteArray.empty t294 x14_2) t304 _ A40.out).mono ?_
                  rintro e w45 ⟨rfl, hb⟩
                  have HS8_ := (hb.cell (World.block_lt_of_cell? _ _ (hHeld.2.2.2.2.2.2.2.2.1))).trans (hHeld.2.2.2.2.2.2.2.2.1)
                  have HS9_ := (hb.cell (World.block_lt_of_cell? _ _ (hHeld.2.2.2.2.2.2.2.2.2))).trans (hHeld.2.2.2.2.2.2.2.2.2)
                  refine ⟨_, rfl, ?_⟩
                  have n0_ := Aside0.mk (Kd.R_below (by (with_reducible repeat (first | apply Kd.R_alloc | apply Kd.R_drewN | apply Kd.R_drew)); exact HO_291003.out) hb)
                  have n1_ := Aside0.mk (Kd.R_below (by (with_reducible repeat (first | apply Kd.R_alloc | apply Kd.R_drewN | apply Kd.R_drew)); exact HO_299003.out) hb)
                  have n2_ := Aside0.mk (blk_below (g := gb290) (o := .cells #[.string t283, .string t284, .string t285, .slice (some ad302) t286.length co15] 36 (0, 0)) (by (with_reducible repeat (first | refine blk_drewN ?_ _ | refine blk_drew ?_ | refine blk_alloc ?_ _)); exact BK290.out) hb)
                  have n3_ := Aside0.mk (blk_below (g := gb298) (o := .cells #[.string t291, .string t292, .string t293, .slice (some ad303) t294.length co20] 36 (0, 0)) (by (with_reducible repeat (first | refine blk_drewN ?_ _ | refine blk_drew ?_ | refine blk_alloc ?_ _)); exact BK298.out) hb)
                  have n4_ := Aside0.mk (below_step (by repeat (first | (with_reducible first | exact HB.out | apply below_alloc | apply pw_below_drewN | apply below_drew1 | refine below_set ?_ GE290.out | refine below_set ?_ GE298.out) | exact HB.out)) hb)
                  clear HO_291003
                  clear HO_299003
                  clear BK290
                  clear BK298
                  clear HB
                  have HO_291003 := n0_
                  have HO_299003 := n1_
                  have BK290 := n2_
                  have BK298 := n3_
                  have HB := n4_
                  clear n0_ n1_ n2_ n3_ n4_
                  (try clear hb)
                  (try clear hb2)
                  (try clear hk)
                  (try clear hi)
                  refine hK.out _ _ ⟨(blk_cell BK290.out 0).trans rfl, (blk_cell BK290.out 1).trans rfl, (blk_cell BK290.out 2).trans rfl, (blk_cell BK290.out 3).trans rfl, (blk_cell BK298.out 0).trans rfl, (blk_cell BK298.out 1).trans rfl, (blk_cell BK298.out 2).trans rfl, (blk_cell BK298.out 3).trans rfl, HS8_, HS9_⟩ (fun hHeld => ?_)
                  clear hK K
                  refine norm_ (a' := ?_) ?_ ?_
                  rotate_left
                  ·show Act.put _ (some 86) _ = _
                   simp only [Act.put, List.setIfInBounds_toArray, List.set_cons_zero, List.set_cons_succ, i64_w, i32_w]
                   rfl
                  refine pure_ (i := 11) (N := some 15) (v := ?_) (a' := ?_) #[true, true, true, true, true, true, true, true, true, true, true, true] rfl rfl (any_of HT_.out (by kernel_rfl)) (fun _ _ _ h => h) (Or.inl ⟨by rfl, ?_⟩) ?_ ?_
                  rotate_left
                  ·intro w'
                   go_simp
                   with_reducible rfl
                  rotate_left
                  ·simp only [Act.put, List.setIfInBounds_toArray, List.set_cons_zero, List.set_cons_succ, i64_w, i32_w]
                   rfl
                  refine done_ (done_of HT_.out (by kernel_rfl)) ?_
                  try go_wp2
                  go_ret
                  exact ⟨by first | rfl | (simp [errW_none, errW_some] <;> rfl) | (simp [*, errW_none, errW_some] <;> rfl), by repeat (first | (with_reducible first | exact HB.out | apply below_alloc | apply pw_below_drewN | apply below_drew1 | refine below_set ?_ GE290.out | refine below_set ?_ GE298.out) | exact HB.out)⟩
                ·rw [if_neg c39] at H
                 exact absurd H (by simp)
               ·rw [if_neg c38] at H
                exact absurd H (by simp)
              ·rw [if_neg c37] at H
               exact absurd H (by simp)
             ·replace c36 := Bool.eq_false_iff.mpr c36
              subst c36
              have H1 : (if (t286.length : Int) < (t294.length : Int) then (some (-1)) else (if (t286.length : Int) > (t294.length : Int) then (some 1) else (some 0))) = some r := by rw [if_neg (show ¬ (false = true) by decide)] at H; exact H
              clear H
              have H := H1
              clear H1
              by_cases c46 : (t286.length : Int) < (t294.length : Int)
              ·rw [if_pos c46] at H
               have c46b0 : decide ((t286.length : Int) < (t294.length : Int)) = true := decide_eq_true c46
               have c46b1 : decide (t286.length < t294.length) = true := decide_eq_true (Int.ofNat_lt.mp c46)
               clear c46
               obtain rfl := Option.some.inj H
               go_wp2
               go_ret
               exact ⟨by first | rfl | (simp [errW_none, errW_some] <;> rfl) | (simp [*, errW_none, errW_some] <;> rfl), by repeat (first | (with_reducible first | exact HB.out | apply below_alloc | apply pw_below_drewN | apply below_drew1 | refine below_set ?_ GE290.out | refine below_set ?_ GE298.out) | exact HB.out)⟩
              ·rw [if_neg c46] at H
               have c46b0 : decide ((t286.length : Int) < (t294.length : Int)) = false := decide_eq_false c46
               have c46b1 : decide (t286.length < t294.length) = false := decide_eq_false (fun h => c46 (Int.ofNat_lt.mpr h))
               clear c46
               by_cases c47 : (t286.length : Int) > (t294.length : Int)
               ·rw [if_pos c47] at H
                have c47b0 : decide ((t294.length : Int) < (t286.length : Int)) = true := decide_eq_true c47
                have c47b1 : decide (t294.length < t286.length) = true := decide_eq_true (Int.ofNat_lt.mp c47)
                clear c47
                obtain rfl := Option.some.inj H
                go_wp2
                go_ret
                exact ⟨by first | rfl | (simp [errW_none, errW_some] <;> rfl) | (simp [*, errW_none, errW_some] <;> rfl), by repeat (first | (with_reducible first | exact HB.out | apply below_alloc | apply pw_below_drewN | apply below_drew1 | refine below_set ?_ GE290.out | refine below_set ?_ GE298.out) | exact HB.out)⟩
               ·rw [if_neg c47] at H
                have c47b0 : decide ((t294.length : Int) < (t286.length : Int)) = false := decide_eq_false c47
                have c47b1 : decide (t294.length < t286.length) = false := decide_eq_false (fun h => c47 (Int.ofNat_lt.mpr h))
                clear c47
                obtain rfl := Option.some.inj H
                go_wp2
                go_ret
                exact ⟨by first | rfl | (simp [errW_none, errW_some] <;> rfl) | (simp [*, errW_none, errW_some] <;> rfl), by repeat (first | (with_reducible first | exact HB.out | apply below_alloc | apply pw_below_drewN | apply below_drew1 | refine below_set ?_ GE290.out | refine below_set ?_ GE298.out) | exact HB.out)⟩
   ·rw [if_neg c10] at H
    have c10b0 : (t301 == 0) = false := beq_eq_false_iff_ne.mpr c10
    have c10b1 : (t301 != 0) = true := bne_iff_ne.mpr c10
    obtain rfl := Option.some.inj H
    go_enter Tryd.func15, Tryd.ntmps15
    go_wp2_with (first | ((with_reducible refine gate_callee (f := 19) rfl ?_); refine goesL_ (some 18) rfl rfl Tryd.func19 (by kernel_rfl) rfl #[.string a0] rfl (by (try simp only [List.map_toArray, List.map_cons, List.map_nil]); first | done | rfl | (simp only [List.length_drop, List.length_take]; rfl)) ?_; (with_reducible refine (graftwoodref03_Split.calls k a0 t283 t284 t285 t286 t289 _ A3.out).mono ?_); rintro e w48 ⟨v287, rfl, ho0, hb⟩; refine ⟨_, rfl, ?_⟩; have n0_ := Aside0.mk (Kd.R_lower ho0 (below_size (by repeat (first | (with_reducible first | exact HB.out | apply below_alloc | apply pw_below_drewN | apply below_drew1) | exact HB.out)))); have n1_ := Aside0.mk (below_step (by repeat (first | (with_reducible first | exact HB.out | apply below_alloc | apply pw_below_drewN | apply below_drew1) | exact HB.out)) hb); clear HB; have HO288 := n0_; have HB := n1_; clear n0_ n1_; (try clear hb); (try clear hb2); (try clear hk); (try clear hi); (try clear ho0)) | ((with_reducible refine gate_dst (N := 5) rfl ?_); refine box_event ?hg (N := 5) ?hd (cs := #[.string (⟨#[]⟩ : ByteArray), .string (⟨#[]⟩ : ByteArray), .string (⟨#[]⟩ : ByteArray), .slice none 0 0]) (t := 36) ?hr ?_; (case hd => rfl); (case hg => rfl); (case hr => first | (go_simp; done) | (go_simp; rfl)); intro gb290 hg w49 hbox hb; have n0_ := Aside0.mk (Kd.R_below (by (with_reducible repeat (first | apply Kd.R_alloc | apply Kd.R_drewN | apply Kd.R_drew)); exact HO288.out) hb); have n1_ := Aside0.mk (below_step (by repeat (first | (with_reducible first | exact HB.out | apply below_alloc | apply pw_below_drewN | apply below_drew1) | exact HB.out)) hb); have n2_ := Aside0.mk (hbox); have n3_ := Aside0.mk ((by rw [hg]; exact (below_size (by repeat (first | (with_reducible first | exact HB.out | apply below_alloc | apply pw_below_drewN | apply below_drew1) | exact HB.out))) : w.heap.size ≤ gb290)); have n4_ := Aside0.mk ((by rw [hg]; exact (below_size (by repeat (first | (with_reducible first | exact HB.out | apply below_alloc | apply pw_below_drewN | apply below_drew1) | exact HB.out))) : w.heap.size ≤ gb290)); clear HO288; clear HB; have HO288 := n0_; have HB := n1_; have BK290 := n2_; have GW290 := n3_; have GE290 := n4_; clear n0_ n1_ n2_ n3_ n4_; clear hb hbox hg; have hcz50_0 : w49.cell? ⟨gb290, 0, none⟩ = some (.string (⟨#[]⟩ : ByteArray)) := (blk_cell BK290.out 0).trans rfl; have hcz50_1 : w49.cell? ⟨gb290, 1, none⟩ = some (.string (⟨#[]⟩ : ByteArray)) := (blk_cell BK290.out 1).trans rfl; have hcz50_2 : w49.cell? ⟨gb290, 2, none⟩ = some (.string (⟨#[]⟩ : ByteArray)) := (blk_cell BK290.out 2).trans rfl; have hcz50_3 : w49.cell? ⟨gb290, 3, none⟩ = some (.slice none 0 0) := (blk_cell BK290.out 3).trans rfl; have hfz50_0 := blk_frozen BK290.out 0; have hfz50_1 := blk_frozen BK290.out 1; have hfz50_2 := blk_frozen BK290.out 2; have hfz50_3 := blk_frozen BK290.out 3; obtain ⟨Ao51, co51, eo51⟩ := Kd.R_slice HO288.out; subst eo51) | ((with_reducible refine gate_callee (f := 19) rfl ?_); refine goesL_ (some 23) rfl rfl Tryd.func19 (by kernel_rfl) rfl #[.string a1] rfl (by (try simp only [List.map_toArray, List.map_cons, List.map_nil]); first | done | rfl | (simp only [List.length_drop, List.length_take]; rfl)) ?_; (with_reducible refine (graftwoodref03_Split.calls k a1 t291 t292 t293 t294 t297 _ A4.out).mono ?_); rintro e w52 ⟨v295, rfl, ho0, hb⟩; refine ⟨_, rfl, ?_⟩; have n0_ := Aside0.mk (Kd.R_elder' (by (with_reducible repeat (first | apply Kd.R_alloc | apply Kd.R_drewN | apply Kd.R_drew)); exact (Kd.R_mono (Kd.R_far (p := ⟨gb290, 3, none⟩) (Kd.R_far (p := ⟨gb290, 2, none⟩) (Kd.R_far (p := ⟨gb290, 1, none⟩) (Kd.R_far (p := ⟨gb290, 0, none⟩) (Kd.R_types HO288.out BK290.out (by decide)) (fun _ hk => hk.2) (.string t283)) (fun _ hk => hk.2) (.string t284)) (fun _ hk => hk.2) (.string t285)) (fun _ hk => hk.2) (.slice Ao51 t286.length co51)) (fun _ h_ => h_.1))) (Kd.R_base ho0) hb); have n1_ := Aside0.mk (Kd.R_lower (Kd.R_new' ho0 (Kd.R_lt (by (with_reducible repeat (first | apply Kd.R_alloc | apply Kd.R_drewN | apply Kd.R_drew)); exact (Kd.R_mono (Kd.R_far (p := ⟨gb290, 3, none⟩) (Kd.R_far (p := ⟨gb290, 2, none⟩) (Kd.R_far (p := ⟨gb290, 1, none⟩) (Kd.R_far (p := ⟨gb290, 0, none⟩) (Kd.R_types HO288.out BK290.out (by decide)) (fun _ hk => hk.2) (.string t283)) (fun _ hk => hk.2) (.string t284)) (fun _ hk => hk.2) (.string t285)) (fun _ hk => hk.2) (.slice Ao51 t286.length co51)) (fun _ h_ => h_.1))))) (below_size (by repeat (first | (with_reducible first | exact HB.out | apply below_alloc | apply pw_below_drewN | apply below_drew1 | refine below_set ?_ GE290.out) | exact HB.out)))); have n2_ := Aside0.mk (blk_below (g := gb290) (o := .cells #[.string t283, .string t284, .string t285, .slice Ao51 t286.length co51] 36 (0, 0)) (by (with_reducible repeat (first | refine blk_drewN ?_ _ | refine blk_drew ?_ | refine blk_alloc ?_ _)); refine blk_put (cs := #[.string t283, .string t284, .string t285, .slice none 0 0]) ?_ 3 _ rfl; (with_reducible repeat (first | refine blk_drewN ?_ _ | refine blk_drew ?_ | refine blk_alloc ?_ _)); refine blk_put (cs := #[.string t283, .string t284, .string (⟨#[]⟩ : ByteArray), .slice none 0 0]) ?_ 2 _ rfl; (with_reducible repeat (first | refine blk_drewN ?_ _ | refine blk_drew ?_ | refine blk_alloc ?_ _)); refine blk_put (cs := #[.string t283, .string (⟨#[]⟩ : ByteArray), .string (⟨#[]⟩ : ByteArray), .slice none 0 0]) ?_ 1 _ rfl; (with_reducible repeat (first | refine blk_drewN ?_ _ | refine blk_drew ?_ | refine blk_alloc ?_ _)); refine blk_put (cs := #[.string (⟨#[]⟩ : ByteArray), .string (⟨#[]⟩ : ByteArray), .string (⟨#[]⟩ : ByteArray), .slice none 0 0]) ?_ 0 _ rfl; (with_reducible repeat (first | refine blk_drewN ?_ _ | refine blk_drew ?_ | refine blk_alloc ?_ _)); exact BK290.out) hb); have n3_ := Aside0.mk (below_step (by repeat (first | (with_reducible first | exact HB.out | apply below_alloc | apply pw_below_drewN | apply below_drew1 | refine below_set ?_ GE290.out) | exact HB.out)) hb); clear HO288; clear BK290; clear HB; have HO288 := n0_; have HO296 := n1_; have BK290 := n2_; have HB := n3_; clear n0_ n1_ n2_ n3_; (try clear hb); (try clear hb2); (try clear hk); (try clear hi); (try clear ho0)) | ((with_reducible refine gate_dst (N := 7) rfl ?_); refine box_event ?hg (N := 7) ?hd (cs := #[.string (⟨#[]⟩ : ByteArray), .string (⟨#[]⟩ : ByteArray), .string (⟨#[]⟩ : ByteArray), .slice none 0 0]) (t := 36) ?hr ?_; (case hd => rfl); (case hg => rfl); (case hr => first | (go_simp; done) | (go_simp; rfl)); intro gb298 hg w53 hbox hb; have n0_ := Aside0.mk (Kd.R_below (by (with_reducible repeat (first | apply Kd.R_alloc | apply Kd.R_drewN | apply Kd.R_drew)); exact HO288.out) hb); have n1_ := Aside0.mk (Kd.R_below (by (with_reducible repeat (first | apply Kd.R_alloc | apply Kd.R_drewN | apply Kd.R_drew)); exact HO296.out) hb); have n2_ := Aside0.mk (blk_below (g := gb290) (o := .cells #[.string t283, .string t284, .string t285, .slice Ao51 t286.length co51] 36 (0, 0)) (by (with_reducible repeat (first | refine blk_drewN ?_ _ | refine blk_drew ?_ | refine blk_alloc ?_ _)); exact BK290.out) hb); have n3_ := Aside0.mk (below_step (by repeat (first | (with_reducible first | exact HB.out | apply below_alloc | apply pw_below_drewN | apply below_drew1 | refine below_set ?_ GE290.out) | exact HB.out)) hb); have n4_ := Aside0.mk (hbox); have n5_ := Aside0.mk ((by rw [hg]; exact (below_size (by repeat (first | (with_reducible first | exact HB.out | apply below_alloc | apply pw_below_drewN | apply below_drew1 | refine below_set ?_ GE290.out) | exact HB.out))) : w.heap.size ≤ gb298)); have n6_ := Aside0.mk ((by rw [hg]; exact (below_size (by repeat (first | (with_reducible first | exact HB.out | apply below_alloc | apply pw_below_drewN | apply below_drew1 | refine below_set ?_ GE290.out) | exact HB.out))) : w.heap.size ≤ gb298)); have n7_ := Aside0.mk ((by rw [hg]; exact Nat.ne_of_lt (blk_lt (g := gb290) (o := .cells #[.string t283, .string t284, .string t285, .slice Ao51 t286.length co51] 36 (0, 0)) (by (with_reducible repeat (first | refine blk_drewN ?_ _ | refine blk_drew ?_ | refine blk_alloc ?_ _)); exact BK290.out)) : gb290 ≠ gb298)); have n8_ := Aside0.mk ((by rw [hg]; exact Nat.ne_of_gt (blk_lt (g := gb290) (o := .cells #[.string t283, .string t284, .string t285, .slice Ao51 t286.length co51] 36 (0, 0)) (by (with_reducible repeat (first | refine blk_drewN ?_ _ | refine blk_drew ?_ | refine blk_alloc ?_ _)); exact BK290.out)) : gb298 ≠ gb290)); clear HO288; clear HO296; clear BK290; clear HB; have HO288 := n0_; have HO296 := n1_; have BK290 := n2_; have HB := n3_; have BK298 := n4_; have GW298 := n5_; have GE298 := n6_; have NB290_298 := n7_; have NB298_290 := n8_; clear n0_ n1_ n2_ n3_ n4_ n5_ n6_ n7_ n8_; clear hb hbox hg; have hnb54 := NB298_290.out; have hnc54 := NB290_298.out; have hcz55_0 : w53.cell? ⟨gb298, 0, none⟩ = some (.string (⟨#[]⟩ : ByteArray)) := (blk_cell BK298.out 0).trans rfl; have hcz55_1 : w53.cell? ⟨gb298, 1, none⟩ = some (.string (⟨#[]⟩ : ByteArray)) := (blk_cell BK298.out 1).trans rfl; have hcz55_2 : w53.cell? ⟨gb298, 2, none⟩ = some (.string (⟨#[]⟩ : ByteArray)) := (blk_cell BK298.out 2).trans rfl; have hcz55_3 : w53.cell? ⟨gb298, 3, none⟩ = some (.slice none 0 0) := (blk_cell BK298.out 3).trans rfl; have hfz55_0 := blk_frozen BK298.out 0; have hfz55_1 := blk_frozen BK298.out 1; have hfz55_2 := blk_frozen BK298.out 2; have hfz55_3 := blk_frozen BK298.out 3; obtain ⟨Ao56, co56, eo56⟩ := Kd.R_slice HO296.out; subst eo56; have hcz57_0 : w53.cell? ⟨gb290, 0, none⟩ = some (.string t283) := (blk_cell BK290.out 0).trans rfl; have hcz57_1 : w53.cell? ⟨gb290, 1, none⟩ = some (.string t284) := (blk_cell BK290.out 1).trans rfl; have hcz57_2 : w53.cell? ⟨gb290, 2, none⟩ = some (.string t285) := (blk_cell BK290.out 2).trans rfl; have hcz57_3 : w53.cell? ⟨gb290, 3, none⟩ = some (.slice Ao51 t286.length co51) := (blk_cell BK290.out 3).trans rfl; have hfz57_0 := blk_frozen BK290.out 0; have hfz57_1 := blk_frozen BK290.out 1; have hfz57_2 := blk_frozen BK290.out 2; have hfz57_3 := blk_frozen BK290.out 3) | ((with_reducible refine gate_callee (f := 27) rfl ?_); refine goesL_ (some 30) rfl rfl Tryd.func27 (by kernel_rfl) rfl #[.string t283, .string t291] rfl (by (try simp only [List.map_toArray, List.map_cons, List.map_nil]); first | done | rfl | (simp only [List.length_drop, List.length_take]; rfl)) ?_; (with_reducible refine (graftwoodref02_Cmp.calls k t283 t291 t299 _ A5.out).mono ?_); rintro e w58 ⟨rfl, hb⟩; refine ⟨_, rfl, ?_⟩; have n0_ := Aside0.mk (Kd.R_below (by (with_reducible repeat (first | apply Kd.R_alloc | apply Kd.R_drewN | apply Kd.R_drew)); exact (Kd.R_mono (Kd.R_far (p := ⟨gb298, 3, none⟩) (Kd.R_far (p := ⟨gb298, 2, none⟩) (Kd.R_far (p := ⟨gb298, 1, none⟩) (Kd.R_far (p := ⟨gb298, 0, none⟩) (Kd.R_types HO288.out BK298.out (by decide)) (fun _ hk => hk.2) (.string t291)) (fun _ hk => hk.2) (.string t292)) (fun _ hk => hk.2) (.string t293)) (fun _ hk => hk.2) (.slice Ao56 t294.length co56)) (fun _ h_ => h_.1))) hb); have n1_ := Aside0.mk (Kd.R_below (by (with_reducible repeat (first | apply Kd.R_alloc | apply Kd.R_drewN | apply Kd.R_drew)); exact (Kd.R_mono (Kd.R_far (p := ⟨gb298, 3, none⟩) (Kd.R_far (p := ⟨gb298, 2, none⟩) (Kd.R_far (p := ⟨gb298, 1, none⟩) (Kd.R_far (p := ⟨gb298, 0, none⟩) (Kd.R_types HO296.out BK298.out (by decide)) (fun _ hk => hk.2) (.string t291)) (fun _ hk => hk.2) (.string t292)) (fun _ hk => hk.2) (.string t293)) (fun _ hk => hk.2) (.slice Ao56 t294.length co56)) (fun _ h_ => h_.1))) hb); have n2_ := Aside0.mk (blk_below (g := gb290) (o := .cells #[.string t283, .string t284, .string t285, .slice Ao51 t286.length co51] 36 (0, 0)) (by (with_reducible repeat (first | refine blk_drewN ?_ _ | refine blk_drew ?_ | refine blk_alloc ?_ _)); refine blk_far ?_ NB290_298.out _; (with_reducible repeat (first | refine blk_drewN ?_ _ | refine blk_drew ?_ | refine blk_alloc ?_ _)); refine blk_far ?_ NB290_298.out _; (with_reducible repeat (first | refine blk_drewN ?_ _ | refine blk_drew ?_ | refine blk_alloc ?_ _)); refine blk_far ?_ NB290_298.out _; (with_reducible repeat (first | refine blk_drewN ?_ _ | refine blk_drew ?_ | refine blk_alloc ?_ _)); refine blk_far ?_ NB290_298.out _; (with_reducible repeat (first | refine blk_drewN ?_ _ | refine blk_drew ?_ | refine blk_alloc ?_ _)); exact BK290.out) hb); have n3_ := Aside0.mk (blk_below (g := gb298) (o := .cells #[.string t291, .string t292, .string t293, .slice Ao56 t294.length co56] 36 (0, 0)) (by (with_reducible repeat (first | refine blk_drewN ?_ _ | refine blk_drew ?_ | refine blk_alloc ?_ _)); refine blk_put (cs := #[.string t291, .string t292, .string t293, .slice none 0 0]) ?_ 3 _ rfl; (with_reducible repeat (first | refine blk_drewN ?_ _ | refine blk_drew ?_ | refine blk_alloc ?_ _)); refine blk_put (cs := #[.string t291, .string t292, .string (⟨#[]⟩ : ByteArray), .slice none 0 0]) ?_ 2 _ rfl; (with_reducible repeat (first | refine blk_drewN ?_ _ | refine blk_drew ?_ | refine blk_alloc ?_ _)); refine blk_put (cs := #[.string t291, .string (⟨#[]⟩ : ByteArray), .string (⟨#[]⟩ : ByteArray), .slice none 0 0]) ?_ 1 _ rfl; (with_reducible repeat (first | refine blk_drewN ?_ _ | refine blk_drew ?_ | refine blk_alloc ?_ _)); refine blk_put (cs := #[.string (⟨#[]⟩ : ByteArray), .string (⟨#[]⟩ : ByteArray), .string (⟨#[]⟩ : ByteArray), .slice none 0 0]) ?_ 0 _ rfl; (with_reducible repeat (first | refine blk_drewN ?_ _ | refine blk_drew ?_ | refine blk_alloc ?_ _)); exact BK298.out) hb); have n4_ := Aside0.mk (below_step (by repeat (first | (with_reducible first | exact HB.out | apply below_alloc | apply pw_below_drewN | apply below_drew1 | refine below_set ?_ GE290.out | refine below_set ?_ GE298.out) | exact HB.out)) hb); clear HO288; clear HO296; clear BK290; clear BK298; clear HB; have HO288 := n0_; have HO296 := n1_; have BK290 := n2_; have BK298 := n3_; have HB := n4_; clear n0_ n1_ n2_ n3_ n4_; (try clear hb); (try clear hb2); (try clear hk); (try clear hi); have hcz59_0 : w58.cell? ⟨gb290, 0, none⟩ = some (.string t283) := (blk_cell BK290.out 0).trans rfl; have hcz59_1 : w58.cell? ⟨gb290, 1, none⟩ = some (.string t284) := (blk_cell BK290.out 1).trans rfl; have hcz59_2 : w58.cell? ⟨gb290, 2, none⟩ = some (.string t285) := (blk_cell BK290.out 2).trans rfl; have hcz59_3 : w58.cell? ⟨gb290, 3, none⟩ = some (.slice Ao51 t286.length co51) := (blk_cell BK290.out 3).trans rfl; have hfz59_0 := blk_frozen BK290.out 0; have hfz59_1 := blk_frozen BK290.out 1; have hfz59_2 := blk_frozen BK290.out 2; have hfz59_3 := blk_frozen BK290.out 3; have hcz60_0 : w58.cell? ⟨gb298, 0, none⟩ = some (.string t291) := (blk_cell BK298.out 0).trans rfl; have hcz60_1 : w58.cell? ⟨gb298, 1, none⟩ = some (.string t292) := (blk_cell BK298.out 1).trans rfl; have hcz60_2 : w58.cell? ⟨gb298, 2, none⟩ = some (.string t293) := (blk_cell BK298.out 2).trans rfl; have hcz60_3 : w58.cell? ⟨gb298, 3, none⟩ = some (.slice Ao56 t294.length co56) := (blk_cell BK298.out 3).trans rfl; have hfz60_0 := blk_frozen BK298.out 0; have hfz60_1 := blk_frozen BK298.out 1; have hfz60_2 := blk_frozen BK298.out 2; have hfz60_3 := blk_frozen BK298.out 3) | ((with_reducible refine gate_callee (f := 27) rfl ?_); refine goesL_ (some 38) rfl rfl Tryd.func27 (by kernel_rfl) rfl #[.string t284, .string t292] rfl (by (try simp only [List.map_toArray, List.map_cons, List.map_nil]); first | done | rfl | (simp only [List.length_drop, List.length_take]; rfl)) ?_; (with_reducible refine (graftwoodref02_Cmp.calls k t284 t292 t300 _ A7.out).mono ?_); rintro e w61 ⟨rfl, hb⟩; refine ⟨_, rfl, ?_⟩; have n0_ := Aside0.mk (Kd.R_below (by (with_reducible repeat (first | apply Kd.R_alloc | apply Kd.R_drewN | apply Kd.R_drew)); exact HO288.out) hb); have n1_ := Aside0.mk (Kd.R_below (by (with_reducible repeat (first | apply Kd.R_alloc | apply Kd.R_drewN | apply Kd.R_drew)); exact HO296.out) hb); have n2_ := Aside0.mk (blk_below (g := gb290) (o := .cells #[.string t283, .string t284, .string t285, .slice Ao51 t286.length co51] 36 (0, 0)) (by (with_reducible repeat (first | refine blk_drewN ?_ _ | refine blk_drew ?_ | refine blk_alloc ?_ _)); exact BK290.out) hb); have n3_ := Aside0.mk (blk_below (g := gb298) (o := .cells #[.string t291, .string t292, .string t293, .slice Ao56 t294.length co56] 36 (0, 0)) (by (with_reducible repeat (first | refine blk_drewN ?_ _ | refine blk_drew ?_ | refine blk_alloc ?_ _)); exact BK298.out) hb); have n4_ := Aside0.mk (below_step (by repeat (first | (with_reducible first | exact HB.out | apply below_alloc | apply pw_below_drewN | apply below_drew1 | refine below_set ?_ GE290.out | refine below_set ?_ GE298.out) | exact HB.out)) hb); clear HO288; clear HO296; clear BK290; clear BK298; clear HB; have HO288 := n0_; have HO296 := n1_; have BK290 := n2_; have BK298 := n3_; have HB := n4_; clear n0_ n1_ n2_ n3_ n4_; (try clear hb); (try clear hb2); (try clear hk); (try clear hi); have hcz62_0 : w61.cell? ⟨gb290, 0, none⟩ = some (.string t283) := (blk_cell BK290.out 0).trans rfl; have hcz62_1 : w61.cell? ⟨gb290, 1, none⟩ = some (.string t284) := (blk_cell BK290.out 1).trans rfl; have hcz62_2 : w61.cell? ⟨gb290, 2, none⟩ = some (.string t285) := (blk_cell BK290.out 2).trans rfl; have hcz62_3 : w61.cell? ⟨gb290, 3, none⟩ = some (.slice Ao51 t286.length co51) := (blk_cell BK290.out 3).trans rfl; have hfz62_0 := blk_frozen BK290.out 0; have hfz62_1 := blk_frozen BK290.out 1; have hfz62_2 := blk_frozen BK290.out 2; have hfz62_3 := blk_frozen BK290.out 3; have hcz63_0 : w61.cell? ⟨gb298, 0, none⟩ = some (.string t291) := (blk_cell BK298.out 0).trans rfl; have hcz63_1 : w61.cell? ⟨gb298, 1, none⟩ = some (.string t292) := (blk_cell BK298.out 1).trans rfl; have hcz63_2 : w61.cell? ⟨gb298, 2, none⟩ = some (.string t293) := (blk_cell BK298.out 2).trans rfl; have hcz63_3 : w61.cell? ⟨gb298, 3, none⟩ = some (.slice Ao56 t294.length co56) := (blk_cell BK298.out 3).trans rfl; have hfz63_0 := blk_frozen BK298.out 0; have hfz63_1 := blk_frozen BK298.out 1; have hfz63_2 := blk_frozen BK298.out 2; have hfz63_3 := blk_frozen BK298.out 3) | ((with_reducible refine gate_callee (f := 27) rfl ?_); refine goesL_ (some 46) rfl rfl Tryd.func27 (by kernel_rfl) rfl #[.string t285, .string t293] rfl (by (try simp only [List.map_toArray, List.map_cons, List.map_nil]); first | done | rfl | (simp only [List.length_drop, List.length_take]; rfl)) ?_; (with_reducible refine (graftwoodref02_Cmp.calls k t285 t293 t301 _ A9.out).mono ?_); rintro e w64 ⟨rfl, hb⟩; refine ⟨_, rfl, ?_⟩; have n0_ := Aside0.mk (Kd.R_below (by (with_reducible repeat (first | apply Kd.R_alloc | apply Kd.R_drewN | apply Kd.R_drew)); exact HO288.out) hb); have n1_ := Aside0.mk (Kd.R_below (by (with_reducible repeat (first | apply Kd.R_alloc | apply Kd.R_drewN | apply Kd.R_drew)); exact HO296.out) hb); have n2_ := Aside0.mk (blk_below (g := gb290) (o := .cells #[.string t283, .string t284, .string t285, .slice Ao51 t286.length co51] 36 (0, 0)) (by (with_reducible repeat (first | refine blk_drewN ?_ _ | refine blk_drew ?_ | refine blk_alloc ?_ _)); exact BK290.out) hb); have n3_ := Aside0.mk (blk_below (g := gb298) (o := .cells #[.string t291, .string t292, .string t293, .slice Ao56 t294.length co56] 36 (0, 0)) (by (with_reducible repeat (first | refine blk_drewN ?_ _ | refine blk_drew ?_ | refine blk_alloc ?_ _)); exact BK298.out) hb); have n4_ := Aside0.mk (below_step (by repeat (first | (with_reducible first | exact HB.out | apply below_alloc | apply pw_below_drewN | apply below_drew1 | refine below_set ?_ GE290.out | refine below_set ?_ GE298.out) | exact HB.out)) hb); clear HO288; clear HO296; clear BK290; clear BK298; clear HB; have HO288 := n0_; have HO296 := n1_; have BK290 := n2_; have BK298 := n3_; have HB := n4_; clear n0_ n1_ n2_ n3_ n4_; (try clear hb); (try clear hb2); (try clear hk); (try clear hi)))
    go_ret
    exact ⟨by first | rfl | (simp [errW_none, errW_some] <;> rfl) | (simp [*, errW_none, errW_some] <;> rfl), by repeat (first | (with_reducible first | exact HB.out | apply below_alloc | apply pw_below_drewN | apply below_drew1 | refine below_set ?_ GE290.out | refine below_set ?_ GE298.out) | exact HB.out)⟩
  ·rw [if_neg c8] at H
   have c8b0 : (t300 == 0) = false := beq_eq_false_iff_ne.mpr c8
   have c8b1 : (t300 != 0) = true := bne_iff_ne.mpr c8
   obtain rfl := Option.some.inj H
   go_enter Tryd.func15, Tryd.ntmps15
   go_wp2_with (first | ((with_reducible refine gate_callee (f := 19) rfl ?_); refine goesL_ (some 18) rfl rfl Tryd.func19 (by kernel_rfl) rfl #[.string a0] rfl (by (try simp only [List.map_toArray, List.map_cons, List.map_nil]); first | done | rfl | (simp only [List.length_drop, List.length_take]; rfl)) ?_; (with_reducible refine (graftwoodref03_Split.calls k a0 t283 t284 t285 t286 t289 _ A3.out).mono ?_); rintro e w65 ⟨v287, rfl, ho0, hb⟩; refine ⟨_, rfl, ?_⟩; have n0_ := Aside0.mk (Kd.R_lower ho0 (below_size (by repeat (first | (with_reducible first | exact HB.out | apply below_alloc | apply pw_below_drewN | apply below_drew1) | exact HB.out)))); have n1_ := Aside0.mk (below_step (by repeat (first | (with_reducible first | exact HB.out | apply below_alloc | apply pw_below_drewN | apply below_drew1) | exact HB.out)) hb); clear HB; have HO288 := n0_; have HB := n1_; clear n0_ n1_; (try clear hb); (try clear hb2); (try clear hk); (try clear hi); (try clear ho0)) | ((with_reducible refine gate_dst (N := 5) rfl ?_); refine box_event ?hg (N := 5) ?hd (cs := #[.string (⟨#[]⟩ : ByteArray), .string (⟨#[]⟩ : ByteArray), .string (⟨#[]⟩ : ByteArray), .slice none 0 0]) (t := 36) ?hr ?_; (case hd => rfl); (case hg => rfl); (case hr => first | (go_simp; done) | (go_simp; rfl)); intro gb290 hg w66 hbox hb; have n0_ := Aside0.mk (Kd.R_below (by (with_reducible repeat (first | apply Kd.R_alloc | apply Kd.R_drewN | apply Kd.R_drew)); exact HO288.out) hb); have n1_ := Aside0.mk (below_step (by repeat (first | (with_reducible first | exact HB.out | apply below_alloc | apply pw_below_drewN | apply below_drew1) | exact HB.out)) hb); have n2_ := Aside0.mk (hbox); have n3_ := Aside0.mk ((by rw [hg]; exact (below_size (by repeat (first | (with_reducible first | exact HB.out | apply below_alloc | apply pw_below_drewN | apply below_drew1) | exact HB.out))) : w.heap.size ≤ gb290)); have n4_ := Aside0.mk ((by rw [hg]; exact (below_size (by repeat (first | (with_reducible first | exact HB.out | apply below_alloc | apply pw_below_drewN | apply below_drew1) | exact HB.out))) : w.heap.size ≤ gb290)); clear HO288; clear HB; have HO288 := n0_; have HB := n1_; have BK290 := n2_; have GW290 := n3_; have GE290 := n4_; clear n0_ n1_ n2_ n3_ n4_; clear hb hbox hg; have hcz67_0 : w66.cell? ⟨gb290, 0, none⟩ = some (.string (⟨#[]⟩ : ByteArray)) := (blk_cell BK290.out 0).trans rfl; have hcz67_1 : w66.cell? ⟨gb290, 1, none⟩ = some (.string (⟨#[]⟩ : ByteArray)) := (blk_cell BK290.out 1).trans rfl; have hcz67_2 : w66.cell? ⟨gb290, 2, none⟩ = some (.string (⟨#[]⟩ : ByteArray)) := (blk_cell BK290.out 2).trans rfl; have hcz67_3 : w66.cell? ⟨gb290, 3, none⟩ = some (.slice none 0 0) := (blk_cell BK290.out 3).trans rfl; have hfz67_0 := blk_frozen BK290.out 0; have hfz67_1 := blk_frozen BK290.out 1; have hfz67_2 := blk_frozen BK290.out 2; have hfz67_3 := blk_frozen BK290.out 3; obtain ⟨Ao68, co68, eo68⟩ := Kd.R_slice HO288.out; subst eo68) | ((with_reducible refine gate_callee (f := 19) rfl ?_); refine goesL_ (some 23) rfl rfl Tryd.func19 (by kernel_rfl) rfl #[.string a1] rfl (by (try simp only [List.map_toArray, List.map_cons, List.map_nil]); first | done | rfl | (simp only [List.length_drop, List.length_take]; rfl)) ?_; (with_reducible refine (graftwoodref03_Split.calls k a1 t291 t292 t293 t294 t297 _ A4.out).mono ?_); rintro e w69 ⟨v295, rfl, ho0, hb⟩; refine ⟨_, rfl, ?_⟩; have n0_ := Aside0.mk (Kd.R_elder' (by (with_reducible repeat (first | apply Kd.R_alloc | apply Kd.R_drewN | apply Kd.R_drew)); exact (Kd.R_mono (Kd.R_far (p := ⟨gb290, 3, none⟩) (Kd.R_far (p := ⟨gb290, 2, none⟩) (Kd.R_far (p := ⟨gb290, 1, none⟩) (Kd.R_far (p := ⟨gb290, 0, none⟩) (Kd.R_types HO288.out BK290.out (by decide)) (fun _ hk => hk.2) (.string t283)) (fun _ hk => hk.2) (.string t284)) (fun _ hk => hk.2) (.string t285)) (fun _ hk => hk.2) (.slice Ao68 t286.length co68)) (fun _ h_ => h_.1))) (Kd.R_base ho0) hb); have n1_ := Aside0.mk (Kd.R_lower (Kd.R_new' ho0 (Kd.R_lt (by (with_reducible repeat (first | apply Kd.R_alloc | apply Kd.R_drewN | apply Kd.R_drew)); exact (Kd.R_mono (Kd.R_far (p := ⟨gb290, 3, none⟩) (Kd.R_far (p := ⟨gb290, 2, none⟩) (Kd.R_far (p := ⟨gb290, 1, none⟩) (Kd.R_far (p := ⟨gb290, 0, none⟩) (Kd.R_types HO288.out BK290.out (by decide)) (fun _ hk => hk.2) (.string t283)) (fun _ hk => hk.2) (.string t284)) (fun _ hk => hk.2) (.string t285)) (fun _ hk => hk.2) (.slice Ao68 t286.length co68)) (fun _ h_ => h_.1))))) (below_size (by repeat (first | (with_reducible first | exact HB.out | apply below_alloc | apply pw_below_drewN | apply below_drew1 | refine below_set ?_ GE290.out) | exact HB.out)))); have n2_ := Aside0.mk (blk_below (g := gb290) (o := .cells #[.string t283, .string t284, .string t285, .slice Ao68 t286.length co68] 36 (0, 0)) (by (with_reducible repeat (first | refine blk_drewN ?_ _ | refine blk_drew ?_ | refine blk_alloc ?_ _)); refine blk_put (cs := #[.string t283, .string t284, .string t285, .slice none 0 0]) ?_ 3 _ rfl; (with_reducible repeat (first | refine blk_drewN ?_ _ | refine blk_drew ?_ | refine blk_alloc ?_ _)); refine blk_put (cs := #[.string t283, .string t284, .string (⟨#[]⟩ : ByteArray), .slice none 0 0]) ?_ 2 _ rfl; (with_reducible repeat (first | refine blk_drewN ?_ _ | refine blk_drew ?_ | refine blk_alloc ?_ _)); refine blk_put (cs := #[.string t283, .string (⟨#[]⟩ : ByteArray), .string (⟨#[]⟩ : ByteArray), .slice none 0 0]) ?_ 1 _ rfl; (with_reducible repeat (first | refine blk_drewN ?_ _ | refine blk_drew ?_ | refine blk_alloc ?_ _)); refine blk_put (cs := #[.string (⟨#[]⟩ : ByteArray), .string (⟨#[]⟩ : ByteArray), .string (⟨#[]⟩ : ByteArray), .slice none 0 0]) ?_ 0 _ rfl; (with_reducible repeat (first | refine blk_drewN ?_ _ | refine blk_drew ?_ | refine blk_alloc ?_ _)); exact BK290.out) hb); have n3_ := Aside0.mk (below_step (by repeat (first | (with_reducible first | exact HB.out | apply below_alloc | apply pw_below_drewN | apply below_drew1 | refine below_set ?_ GE290.out) | exact HB.out)) hb); clear HO288; clear BK290; clear HB; have HO288 := n0_; have HO296 := n1_; have BK290 := n2_; have HB := n3_; clear n0_ n1_ n2_ n3_; (try clear hb); (try clear hb2); (try clear hk); (try clear hi); (try clear ho0)) | ((with_reducible refine gate_dst (N := 7) rfl ?_); refine box_event ?hg (N := 7) ?hd (cs := #[.string (⟨#[]⟩ : ByteArray), .string (⟨#[]⟩ : ByteArray), .string (⟨#[]⟩ : ByteArray), .slice none 0 0]) (t := 36) ?hr ?_; (case hd => rfl); (case hg => rfl); (case hr => first | (go_simp; done) | (go_simp; rfl)); intro gb298 hg w70 hbox hb; have n0_ := Aside0.mk (Kd.R_below (by (with_reducible repeat (first | apply Kd.R_alloc | apply Kd.R_drewN | apply Kd.R_drew)); exact HO288.out) hb); have n1_ := Aside0.mk (Kd.R_below (by (with_reducible repeat (first | apply Kd.R_alloc | apply Kd.R_drewN | apply Kd.R_drew)); exact HO296.out) hb); have n2_ := Aside0.mk (blk_below (g := gb290) (o := .cells #[.string t283, .string t284, .string t285, .slice Ao68 t286.length co68] 36 (0, 0)) (by (with_reducible repeat (first | refine blk_drewN ?_ _ | refine blk_drew ?_ | refine blk_alloc ?_ _)); exact BK290.out) hb); have n3_ := Aside0.mk (below_step (by repeat (first | (with_reducible first | exact HB.out | apply below_alloc | apply pw_below_drewN | apply below_drew1 | refine below_set ?_ GE290.out) | exact HB.out)) hb); have n4_ := Aside0.mk (hbox); have n5_ := Aside0.mk ((by rw [hg]; exact (below_size (by repeat (first | (with_reducible first | exact HB.out | apply below_alloc | apply pw_below_drewN | apply below_drew1 | refine below_set ?_ GE290.out) | exact HB.out))) : w.heap.size ≤ gb298)); have n6_ := Aside0.mk ((by rw [hg]; exact (below_size (by repeat (first | (with_reducible first | exact HB.out | apply below_alloc | apply pw_below_drewN | apply below_drew1 | refine below_set ?_ GE290.out) | exact HB.out))) : w.heap.size ≤ gb298)); have n7_ := Aside0.mk ((by rw [hg]; exact Nat.ne_of_lt (blk_lt (g := gb290) (o := .cells #[.string t283, .string t284, .string t285, .slice Ao68 t286.length co68] 36 (0, 0)) (by (with_reducible repeat (first | refine blk_drewN ?_ _ | refine blk_drew ?_ | refine blk_alloc ?_ _)); exact BK290.out)) : gb290 ≠ gb298)); have n8_ := Aside0.mk ((by rw [hg]; exact Nat.ne_of_gt (blk_lt (g := gb290) (o := .cells #[.string t283, .string t284, .string t285, .slice Ao68 t286.length co68] 36 (0, 0)) (by (with_reducible repeat (first | refine blk_drewN ?_ _ | refine blk_drew ?_ | refine blk_alloc ?_ _)); exact BK290.out)) : gb298 ≠ gb290)); clear HO288; clear HO296; clear BK290; clear HB; have HO288 := n0_; have HO296 := n1_; have BK290 := n2_; have HB := n3_; have BK298 := n4_; have GW298 := n5_; have GE298 := n6_; have NB290_298 := n7_; have NB298_290 := n8_; clear n0_ n1_ n2_ n3_ n4_ n5_ n6_ n7_ n8_; clear hb hbox hg; have hnb71 := NB298_290.out; have hnc71 := NB290_298.out; have hcz72_0 : w70.cell? ⟨gb298, 0, none⟩ = some (.string (⟨#[]⟩ : ByteArray)) := (blk_cell BK298.out 0).trans rfl; have hcz72_1 : w70.cell? ⟨gb298, 1, none⟩ = some (.string (⟨#[]⟩ : ByteArray)) := (blk_cell BK298.out 1).trans rfl; have hcz72_2 : w70.cell? ⟨gb298, 2, none⟩ = some (.string (⟨#[]⟩ : ByteArray)) := (blk_cell BK298.out 2).trans rfl; have hcz72_3 : w70.cell? ⟨gb298, 3, none⟩ = some (.slice none 0 0) := (blk_cell BK298.out 3).trans rfl; have hfz72_0 := blk_frozen BK298.out 0; have hfz72_1 := blk_frozen BK298.out 1; have hfz72_2 := blk_frozen BK298.out 2; have hfz72_3 := blk_frozen BK298.out 3; obtain ⟨Ao73, co73, eo73⟩ := Kd.R_slice HO296.out; subst eo73; have hcz74_0 : w70.cell? ⟨gb290, 0, none⟩ = some (.string t283) := (blk_cell BK290.out 0).trans rfl; have hcz74_1 : w70.cell? ⟨gb290, 1, none⟩ = some (.string t284) := (blk_cell BK290.out 1).trans rfl; have hcz74_2 : w70.cell? ⟨gb290, 2, none⟩ = some (.string t285) := (blk_cell BK290.out 2).trans rfl; have hcz74_3 : w70.cell? ⟨gb290, 3, none⟩ = some (.slice Ao68 t286.length co68) := (blk_cell BK290.out 3).trans rfl; have hfz74_0 := blk_frozen BK290.out 0; have hfz74_1 := blk_frozen BK290.out 1; have hfz74_2 := blk_frozen BK290.out 2; have hfz74_3 := blk_frozen BK290.out 3) | ((with_reducible refine gate_callee (f := 27) rfl ?_); refine goesL_ (some 30) rfl rfl Tryd.func27 (by kernel_rfl) rfl #[.string t283, .string t291] rfl (by (try simp only [List.map_toArray, List.map_cons, List.map_nil]); first | done | rfl | (simp only [List.length_drop, List.length_take]; rfl)) ?_; (with_reducible refine (graftwoodref02_Cmp.calls k t283 t291 t299 _ A5.out).mono ?_); rintro e w75 ⟨rfl, hb⟩; refine ⟨_, rfl, ?_⟩; have n0_ := Aside0.mk (Kd.R_below (by (with_reducible repeat (first | apply Kd.R_alloc | apply Kd.R_drewN | apply Kd.R_drew)); exact (Kd.R_mono (Kd.R_far (p := ⟨gb298, 3, none⟩) (Kd.R_far (p := ⟨gb298, 2, none⟩) (Kd.R_far (p := ⟨gb298, 1, none⟩) (Kd.R_far (p := ⟨gb298, 0, none⟩) (Kd.R_types HO288.out BK298.out (by decide)) (fun _ hk => hk.2) (.string t291)) (fun _ hk => hk.2) (.string t292)) (fun _ hk => hk.2) (.string t293)) (fun _ hk => hk.2) (.slice Ao73 t294.length co73)) (fun _ h_ => h_.1))) hb); have n1_ := Aside0.mk (Kd.R_below (by (with_reducible repeat (first | apply Kd.R_alloc | apply Kd.R_drewN | apply Kd.R_drew)); exact (Kd.R_mono (Kd.R_far (p := ⟨gb298, 3, none⟩) (Kd.R_far (p := ⟨gb298, 2, none⟩) (Kd.R_far (p := ⟨gb298, 1, none⟩) (Kd.R_far (p := ⟨gb298, 0, none⟩) (Kd.R_types HO296.out BK298.out (by decide)) (fun _ hk => hk.2) (.string t291)) (fun _ hk => hk.2) (.string t292)) (fun _ hk => hk.2) (.string t293)) (fun _ hk => hk.2) (.slice Ao73 t294.length co73)) (fun _ h_ => h_.1))) hb); have n2_ := Aside0.mk (blk_below (g := gb290) (o := .cells #[.string t283, .string t284, .string t285, .slice Ao68 t286.length co68] 36 (0, 0)) (by (with_reducible repeat (first | refine blk_drewN ?_ _ | refine blk_drew ?_ | refine blk_alloc ?_ _)); refine blk_far ?_ NB290_298.out _; (with_reducible repeat (first | refine blk_drewN ?_ _ | refine blk_drew ?_ | refine blk_alloc ?_ _)); refine blk_far ?_ NB290_298.out _; (with_reducible repeat (first | refine blk_drewN ?_ _ | refine blk_drew ?_ | refine blk_alloc ?_ _)); refine blk_far ?_ NB290_298.out _; (with_reducible repeat (first | refine blk_drewN ?_ _ | refine blk_drew ?_ | refine blk_alloc ?_ _)); refine blk_far ?_ NB290_298.out _; (with_reducible repeat (first | refine blk_drewN ?_ _ | refine blk_drew ?_ | refine blk_alloc ?_ _)); exact BK290.out) hb); have n3_ := Aside0.mk (blk_below (g := gb298) (o := .cells #[.string t291, .string t292, .string t293, .slice Ao73 t294.length co73] 36 (0, 0)) (by (with_reducible repeat (first | refine blk_drewN ?_ _ | refine blk_drew ?_ | refine blk_alloc ?_ _)); refine blk_put (cs := #[.string t291, .string t292, .string t293, .slice none 0 0]) ?_ 3 _ rfl; (with_reducible repeat (first | refine blk_drewN ?_ _ | refine blk_drew ?_ | refine blk_alloc ?_ _)); refine blk_put (cs := #[.string t291, .string t292, .string (⟨#[]⟩ : ByteArray), .slice none 0 0]) ?_ 2 _ rfl; (with_reducible repeat (first | refine blk_drewN ?_ _ | refine blk_drew ?_ | refine blk_alloc ?_ _)); refine blk_put (cs := #[.string t291, .string (⟨#[]⟩ : ByteArray), .string (⟨#[]⟩ : ByteArray), .slice none 0 0]) ?_ 1 _ rfl; (with_reducible repeat (first | refine blk_drewN ?_ _ | refine blk_drew ?_ | refine blk_alloc ?_ _)); refine blk_put (cs := #[.string (⟨#[]⟩ : ByteArray), .string (⟨#[]⟩ : ByteArray), .string (⟨#[]⟩ : ByteArray), .slice none 0 0]) ?_ 0 _ rfl; (with_reducible repeat (first | refine blk_drewN ?_ _ | refine blk_drew ?_ | refine blk_alloc ?_ _)); exact BK298.out) hb); have n4_ := Aside0.mk (below_step (by repeat (first | (with_reducible first | exact HB.out | apply below_alloc | apply pw_below_drewN | apply below_drew1 | refine below_set ?_ GE290.out | refine below_set ?_ GE298.out) | exact HB.out)) hb); clear HO288; clear HO296; clear BK290; clear BK298; clear HB; have HO288 := n0_; have HO296 := n1_; have BK290 := n2_; have BK298 := n3_; have HB := n4_; clear n0_ n1_ n2_ n3_ n4_; (try clear hb); (try clear hb2); (try clear hk); (try clear hi); have hcz76_0 : w75.cell? ⟨gb290, 0, none⟩ = some (.string t283) := (blk_cell BK290.out 0).trans rfl; have hcz76_1 : w75.cell? ⟨gb290, 1, none⟩ = some (.string t284) := (blk_cell BK290.out 1).trans rfl; have hcz76_2 : w75.cell? ⟨gb290, 2, none⟩ = some (.string t285) := (blk_cell BK290.out 2).trans rfl; have hcz76_3 : w75.cell? ⟨gb290, 3, none⟩ = some (.slice Ao68 t286.length co68) := (blk_cell BK290.out 3).trans rfl; have hfz76_0 := blk_frozen BK290.out 0; have hfz76_1 := blk_frozen BK290.out 1; have hfz76_2 := blk_frozen BK290.out 2; have hfz76_3 := blk_frozen BK290.out 3; have hcz77_0 : w75.cell? ⟨gb298, 0, none⟩ = some (.string t291) := (blk_cell BK298.out 0).trans rfl; have hcz77_1 : w75.cell? ⟨gb298, 1, none⟩ = some (.string t292) := (blk_cell BK298.out 1).trans rfl; have hcz77_2 : w75.cell? ⟨gb298, 2, none⟩ = some (.string t293) := (blk_cell BK298.out 2).trans rfl; have hcz77_3 : w75.cell? ⟨gb298, 3, none⟩ = some (.slice Ao73 t294.length co73) := (blk_cell BK298.out 3).trans rfl; have hfz77_0 := blk_frozen BK298.out 0; have hfz77_1 := blk_frozen BK298.out 1; have hfz77_2 := blk_frozen BK298.out 2; have hfz77_3 := blk_frozen BK298.out 3) | ((with_reducible refine gate_callee (f := 27) rfl ?_); refine goesL_ (some 38) rfl rfl Tryd.func27 (by kernel_rfl) rfl #[.string t284, .string t292] rfl (by (try simp only [List.map_toArray, List.map_cons, List.map_nil]); first | done | rfl | (simp only [List.length_drop, List.length_take]; rfl)) ?_; (with_reducible refine (graftwoodref02_Cmp.calls k t284 t292 t300 _ A7.out).mono ?_); rintro e w78 ⟨rfl, hb⟩; refine ⟨_, rfl, ?_⟩; have n0_ := Aside0.mk (Kd.R_below (by (with_reducible repeat (first | apply Kd.R_alloc | apply Kd.R_drewN | apply Kd.R_drew)); exact HO288.out) hb); have n1_ := Aside0.mk (Kd.R_below (by (with_reducible repeat (first | apply Kd.R_alloc | apply Kd.R_drewN | apply Kd.R_drew)); exact HO296.out) hb); have n2_ := Aside0.mk (blk_below (g := gb290) (o := .cells #[.string t283, .string t284, .string t285, .slice Ao68 t286.length co68] 36 (0, 0)) (by (with_reducible repeat (first | refine blk_drewN ?_ _ | refine blk_drew ?_ | refine blk_alloc ?_ _)); exact BK290.out) hb); have n3_ := Aside0.mk (blk_below (g := gb298) (o := .cells #[.string t291, .string t292, .string t293, .slice Ao73 t294.length co73] 36 (0, 0)) (by (with_reducible repeat (first | refine blk_drewN ?_ _ | refine blk_drew ?_ | refine blk_alloc ?_ _)); exact BK298.out) hb); have n4_ := Aside0.mk (below_step (by repeat (first | (with_reducible first | exact HB.out | apply below_alloc | apply pw_below_drewN | apply below_drew1 | refine below_set ?_ GE290.out | refine below_set ?_ GE298.out) | exact HB.out)) hb); clear HO288; clear HO296; clear BK290; clear BK298; clear HB; have HO288 := n0_; have HO296 := n1_; have BK290 := n2_; have BK298 := n3_; have HB := n4_; clear n0_ n1_ n2_ n3_ n4_; (try clear hb); (try clear hb2); (try clear hk); (try clear hi)))
   go_ret
   exact ⟨by first | rfl | (simp [errW_none, errW_some] <;> rfl) | (simp [*, errW_none, errW_some] <;> rfl), by repeat (first | (with_reducible first | exact HB.out | apply below_alloc | apply pw_below_drewN | apply below_drew1 | refine below_set ?_ GE290.out | refine below_set ?_ GE298.out) | exact HB.out)⟩
 ·rw [if_neg c6] at H
  have c6b0 : (t299 == 0) = false := beq_eq_false_iff_ne.mpr c6
  have c6b1 : (t299 != 0) = true := bne_iff_ne.mpr c6
  obtain rfl := Option.some.inj H
  go_enter Tryd.func15, Tryd.ntmps15
  go_wp2_with (first | ((with_reducible refine gate_callee (f := 19) rfl ?_); refine goesL_ (some 18) rfl rfl Tryd.func19 (by kernel_rfl) rfl #[.string a0] rfl (by (try simp only [List.map_toArray, List.map_cons, List.map_nil]); first | done | rfl | (simp only [List.length_drop, List.length_take]; rfl)) ?_; (with_reducible refine (graftwoodref03_Split.calls k a0 t283 t284 t285 t286 t289 _ A3.out).mono ?_); rintro e w79 ⟨v287, rfl, ho0, hb⟩; refine ⟨_, rfl, ?_⟩; have n0_ := Aside0.mk (Kd.R_lower ho0 (below_size (by repeat (first | (with_reducible first | exact HB.out | apply below_alloc | apply pw_below_drewN | apply below_drew1) | exact HB.out)))); have n1_ := Aside0.mk (below_step (by repeat (first | (with_reducible first | exact HB.out | apply below_alloc | apply pw_below_drewN | apply below_drew1) | exact HB.out)) hb); clear HB; have HO288 := n0_; have HB := n1_; clear n0_ n1_; (try clear hb); (try clear hb2); (try clear hk); (try clear hi); (try clear ho0)) | ((with_reducible refine gate_dst (N := 5) rfl ?_); refine box_event ?hg (N := 5) ?hd (cs := #[.string (⟨#[]⟩ : ByteArray), .string (⟨#[]⟩ : ByteArray), .string (⟨#[]⟩ : ByteArray), .slice none 0 0]) (t := 36) ?hr ?_; (case hd => rfl); (case hg => rfl); (case hr => first | (go_simp; done) | (go_simp; rfl)); intro gb290 hg w80 hbox hb; have n0_ := Aside0.mk (Kd.R_below (by (with_reducible repeat (first | apply Kd.R_alloc | apply Kd.R_drewN | apply Kd.R_drew)); exact HO288.out) hb); have n1_ := Aside0.mk (below_step (by repeat (first | (with_reducible first | exact HB.out | apply below_alloc | apply pw_below_drewN | apply below_drew1) | exact HB.out)) hb); have n2_ := Aside0.mk (hbox); have n3_ := Aside0.mk ((by rw [hg]; exact (below_size (by repeat (first | (with_reducible first | exact HB.out | apply below_alloc | apply pw_below_drewN | apply below_drew1) | exact HB.out))) : w.heap.size ≤ gb290)); have n4_ := Aside0.mk ((by rw [hg]; exact (below_size (by repeat (first | (with_reducible first | exact HB.out | apply below_alloc | apply pw_below_drewN | apply below_drew1) | exact HB.out))) : w.heap.size ≤ gb290)); clear HO288; clear HB; have HO288 := n0_; have HB := n1_; have BK290 := n2_; have GW290 := n3_; have GE290 := n4_; clear n0_ n1_ n2_ n3_ n4_; clear hb hbox hg; have hcz81_0 : w80.cell? ⟨gb290, 0, none⟩ = some (.string (⟨#[]⟩ : ByteArray)) := (blk_cell BK290.out 0).trans rfl; have hcz81_1 : w80.cell? ⟨gb290, 1, none⟩ = some (.string (⟨#[]⟩ : ByteArray)) := (blk_cell BK290.out 1).trans rfl; have hcz81_2 : w80.cell? ⟨gb290, 2, none⟩ = some (.string (⟨#[]⟩ : ByteArray)) := (blk_cell BK290.out 2).trans rfl; have hcz81_3 : w80.cell? ⟨gb290, 3, none⟩ = some (.slice none 0 0) := (blk_cell BK290.out 3).trans rfl; have hfz81_0 := blk_frozen BK290.out 0; have hfz81_1 := blk_frozen BK290.out 1; have hfz81_2 := blk_frozen BK290.out 2; have hfz81_3 := blk_frozen BK290.out 3; obtain ⟨Ao82, co82, eo82⟩ := Kd.R_slice HO288.out; subst eo82) | ((with_reducible refine gate_callee (f := 19) rfl ?_); refine goesL_ (some 23) rfl rfl Tryd.func19 (by kernel_rfl) rfl #[.string a1] rfl (by (try simp only [List.map_toArray, List.map_cons, List.map_nil]); first | done | rfl | (simp only [List.length_drop, List.length_take]; rfl)) ?_; (with_reducible refine (graftwoodref03_Split.calls k a1 t291 t292 t293 t294 t297 _ A4.out).mono ?_); rintro e w83 ⟨v295, rfl, ho0, hb⟩; refine ⟨_, rfl, ?_⟩; have n0_ := Aside0.mk (Kd.R_elder' (by (with_reducible repeat (first | apply Kd.R_alloc | apply Kd.R_drewN | apply Kd.R_drew)); exact (Kd.R_mono (Kd.R_far (p := ⟨gb290, 3, none⟩) (Kd.R_far (p := ⟨gb290, 2, none⟩) (Kd.R_far (p := ⟨gb290, 1, none⟩) (Kd.R_far (p := ⟨gb290, 0, none⟩) (Kd.R_types HO288.out BK290.out (by decide)) (fun _ hk => hk.2) (.string t283)) (fun _ hk => hk.2) (.string t284)) (fun _ hk => hk.2) (.string t285)) (fun _ hk => hk.2) (.slice Ao82 t286.length co82)) (fun _ h_ => h_.1))) (Kd.R_base ho0) hb); have n1_ := Aside0.mk (Kd.R_lower (Kd.R_new' ho0 (Kd.R_lt (by (with_reducible repeat (first | apply Kd.R_alloc | apply Kd.R_drewN | apply Kd.R_drew)); exact (Kd.R_mono (Kd.R_far (p := ⟨gb290, 3, none⟩) (Kd.R_far (p := ⟨gb290, 2, none⟩) (Kd.R_far (p := ⟨gb290, 1, none⟩) (Kd.R_far (p := ⟨gb290, 0, none⟩) (Kd.R_types HO288.out BK290.out (by decide)) (fun _ hk => hk.2) (.string t283)) (fun _ hk => hk.2) (.string t284)) (fun _ hk => hk.2) (.string t285)) (fun _ hk => hk.2) (.slice Ao82 t286.length co82)) (fun _ h_ => h_.1))))) (below_size (by repeat (first | (with_reducible first | exact HB.out | apply below_alloc | apply pw_below_drewN | apply below_drew1 | refine below_set ?_ GE290.out) | exact HB.out)))); have n2_ := Aside0.mk (blk_below (g := gb290) (o := .cells #[.string t283, .string t284, .string t285, .slice Ao82 t286.length co82] 36 (0, 0)) (by (with_reducible repeat (first | refine blk_drewN ?_ _ | refine blk_drew ?_ | refine blk_alloc ?_ _)); refine blk_put (cs := #[.string t283, .string t284, .string t285, .slice none 0 0]) ?_ 3 _ rfl; (with_reducible repeat (first | refine blk_drewN ?_ _ | refine blk_drew ?_ | refine blk_alloc ?_ _)); refine blk_put (cs := #[.string t283, .string t284, .string (⟨#[]⟩ : ByteArray), .slice none 0 0]) ?_ 2 _ rfl; (with_reducible repeat (first | refine blk_drewN ?_ _ | refine blk_drew ?_ | refine blk_alloc ?_ _)); refine blk_put (cs := #[.string t283, .string (⟨#[]⟩ : ByteArray), .string (⟨#[]⟩ : ByteArray), .slice none 0 0]) ?_ 1 _ rfl; (with_reducible repeat (first | refine blk_drewN ?_ _ | refine blk_drew ?_ | refine blk_alloc ?_ _)); refine blk_put (cs := #[.string (⟨#[]⟩ : ByteArray), .string (⟨#[]⟩ : ByteArray), .string (⟨#[]⟩ : ByteArray), .slice none 0 0]) ?_ 0 _ rfl; (with_reducible repeat (first | refine blk_drewN ?_ _ | refine blk_drew ?_ | refine blk_alloc ?_ _)); exact BK290.out) hb); have n3_ := Aside0.mk (below_step (by repeat (first | (with_reducible first | exact HB.out | apply below_alloc | apply pw_below_drewN | apply below_drew1 | refine below_set ?_ GE290.out) | exact HB.out)) hb); clear HO288; clear BK290; clear HB; have HO288 := n0_; have HO296 := n1_; have BK290 := n2_; have HB := n3_; clear n0_ n1_ n2_ n3_; (try clear hb); (try clear hb2); (try clear hk); (try clear hi); (try clear ho0)) | ((with_reducible refine gate_dst (N := 7) rfl ?_); refine box_event ?hg (N := 7) ?hd (cs := #[.string (⟨#[]⟩ : ByteArray), .string (⟨#[]⟩ : ByteArray), .string (⟨#[]⟩ : ByteArray), .slice none 0 0]) (t := 36) ?hr ?_; (case hd => rfl); (case hg => rfl); (case hr => first | (go_simp; done) | (go_simp; rfl)); intro gb298 hg w84 hbox hb; have n0_ := Aside0.mk (Kd.R_below (by (with_reducible repeat (first | apply Kd.R_alloc | apply Kd.R_drewN | apply Kd.R_drew)); exact HO288.out) hb); have n1_ := Aside0.mk (Kd.R_below (by (with_reducible repeat (first | apply Kd.R_alloc | apply Kd.R_drewN | apply Kd.R_drew)); exact HO296.out) hb); have n2_ := Aside0.mk (blk_below (g := gb290) (o := .cells #[.string t283, .string t284, .string t285, .slice Ao82 t286.length co82] 36 (0, 0)) (by (with_reducible repeat (first | refine blk_drewN ?_ _ | refine blk_drew ?_ | refine blk_alloc ?_ _)); exact BK290.out) hb); have n3_ := Aside0.mk (below_step (by repeat (first | (with_reducible first | exact HB.out | apply below_alloc | apply pw_below_drewN | apply below_drew1 | refine below_set ?_ GE290.out) | exact HB.out)) hb); have n4_ := Aside0.mk (hbox); have n5_ := Aside0.mk ((by rw [hg]; exact (below_size (by repeat (first | (with_reducible first | exact HB.out | apply below_alloc | apply pw_below_drewN | apply below_drew1 | refine below_set ?_ GE290.out) | exact HB.out))) : w.heap.size ≤ gb298)); have n6_ := Aside0.mk ((by rw [hg]; exact (below_size (by repeat (first | (with_reducible first | exact HB.out | apply below_alloc | apply pw_below_drewN | apply below_drew1 | refine below_set ?_ GE290.out) | exact HB.out))) : w.heap.size ≤ gb298)); have n7_ := Aside0.mk ((by rw [hg]; exact Nat.ne_of_lt (blk_lt (g := gb290) (o := .cells #[.string t283, .string t284, .string t285, .slice Ao82 t286.length co82] 36 (0, 0)) (by (with_reducible repeat (first | refine blk_drewN ?_ _ | refine blk_drew ?_ | refine blk_alloc ?_ _)); exact BK290.out)) : gb290 ≠ gb298)); have n8_ := Aside0.mk ((by rw [hg]; exact Nat.ne_of_gt (blk_lt (g := gb290) (o := .cells #[.string t283, .string t284, .string t285, .slice Ao82 t286.length co82] 36 (0, 0)) (by (with_reducible repeat (first | refine blk_drewN ?_ _ | refine blk_drew ?_ | refine blk_alloc ?_ _)); exact BK290.out)) : gb298 ≠ gb290)); clear HO288; clear HO296; clear BK290; clear HB; have HO288 := n0_; have HO296 := n1_; have BK290 := n2_; have HB := n3_; have BK298 := n4_; have GW298 := n5_; have GE298 := n6_; have NB290_298 := n7_; have NB298_290 := n8_; clear n0_ n1_ n2_ n3_ n4_ n5_ n6_ n7_ n8_; clear hb hbox hg; have hnb85 := NB298_290.out; have hnc85 := NB290_298.out; have hcz86_0 : w84.cell? ⟨gb298, 0, none⟩ = some (.string (⟨#[]⟩ : ByteArray)) := (blk_cell BK298.out 0).trans rfl; have hcz86_1 : w84.cell? ⟨gb298, 1, none⟩ = some (.string (⟨#[]⟩ : ByteArray)) := (blk_cell BK298.out 1).trans rfl; have hcz86_2 : w84.cell? ⟨gb298, 2, none⟩ = some (.string (⟨#[]⟩ : ByteArray)) := (blk_cell BK298.out 2).trans rfl; have hcz86_3 : w84.cell? ⟨gb298, 3, none⟩ = some (.slice none 0 0) := (blk_cell BK298.out 3).trans rfl; have hfz86_0 := blk_frozen BK298.out 0; have hfz86_1 := blk_frozen BK298.out 1; have hfz86_2 := blk_frozen BK298.out 2; have hfz86_3 := blk_frozen BK298.out 3; obtain ⟨Ao87, co87, eo87⟩ := Kd.R_slice HO296.out; subst eo87; have hcz88_0 : w84.cell? ⟨gb290, 0, none⟩ = some (.string t283) := (blk_cell BK290.out 0).trans rfl; have hcz88_1 : w84.cell? ⟨gb290, 1, none⟩ = some (.string t284) := (blk_cell BK290.out 1).trans rfl; have hcz88_2 : w84.cell? ⟨gb290, 2, none⟩ = some (.string t285) := (blk_cell BK290.out 2).trans rfl; have hcz88_3 : w84.cell? ⟨gb290, 3, none⟩ = some (.slice Ao82 t286.length co82) := (blk_cell BK290.out 3).trans rfl; have hfz88_0 := blk_frozen BK290.out 0; have hfz88_1 := blk_frozen BK290.out 1; have hfz88_2 := blk_frozen BK290.out 2; have hfz88_3 := blk_frozen BK290.out 3) | ((with_reducible refine gate_callee (f := 27) rfl ?_); refine goesL_ (some 30) rfl rfl Tryd.func27 (by kernel_rfl) rfl #[.string t283, .string t291] rfl (by (try simp only [List.map_toArray, List.map_cons, List.map_nil]); first | done | rfl | (simp only [List.length_drop, List.length_take]; rfl)) ?_; (with_reducible refine (graftwoodref02_Cmp.calls k t283 t291 t299 _ A5.out).mono ?_); rintro e w89 ⟨rfl, hb⟩; refine ⟨_, rfl, ?_⟩; have n0_ := Aside0.mk (Kd.R_below (by (with_reducible repeat (first | apply Kd.R_alloc | apply Kd.R_drewN | apply Kd.R_drew)); exact (Kd.R_mono (Kd.R_far (p := ⟨gb298, 3, none⟩) (Kd.R_far (p := ⟨gb298, 2, none⟩) (Kd.R_far (p := ⟨gb298, 1, none⟩) (Kd.R_far (p := ⟨gb298, 0, none⟩) (Kd.R_types HO288.out BK298.out (by decide)) (fun _ hk => hk.2) (.string t291)) (fun _ hk => hk.2) (.string t292)) (fun _ hk => hk.2) (.string t293)) (fun _ hk => hk.2) (.slice Ao87 t294.length co87)) (fun _ h_ => h_.1))) hb); have n1_ := Aside0.mk (Kd.R_below (by (with_reducible repeat (first | apply Kd.R_alloc | apply Kd.R_drewN | apply Kd.R_drew)); exact (Kd.R_mono (Kd.R_far (p := ⟨gb298, 3, none⟩) (Kd.R_far (p := ⟨gb298, 2, none⟩) (Kd.R_far (p := ⟨gb298, 1, none⟩) (Kd.R_far (p := ⟨gb298, 0, none⟩) (Kd.R_types HO296.out BK298.out (by decide)) (fun _ hk => hk.2) (.string t291)) (fun _ hk => hk.2) (.string t292)) (fun _ hk => hk.2) (.string t293)) (fun _ hk => hk.2) (.slice Ao87 t294.length co87)) (fun _ h_ => h_.1))) hb); have n2_ := Aside0.mk (blk_below (g := gb290) (o := .cells #[.string t283, .string t284, .string t285, .slice Ao82 t286.length co82] 36 (0, 0)) (by (with_reducible repeat (first | refine blk_drewN ?_ _ | refine blk_drew ?_ | refine blk_alloc ?_ _)); refine blk_far ?_ NB290_298.out _; (with_reducible repeat (first | refine blk_drewN ?_ _ | refine blk_drew ?_ | refine blk_alloc ?_ _)); refine blk_far ?_ NB290_298.out _; (with_reducible repeat (first | refine blk_drewN ?_ _ | refine blk_drew ?_ | refine blk_alloc ?_ _)); refine blk_far ?_ NB290_298.out _; (with_reducible repeat (first | refine blk_drewN ?_ _ | refine blk_drew ?_ | refine blk_alloc ?_ _)); refine blk_far ?_ NB290_298.out _; (with_reducible repeat (first | refine blk_drewN ?_ _ | refine blk_drew ?_ | refine blk_alloc ?_ _)); exact BK290.out) hb); have n3_ := Aside0.mk (blk_below (g := gb298) (o := .cells #[.string t291, .string t292, .string t293, .slice Ao87 t294.length co87] 36 (0, 0)) (by (with_reducible repeat (first | refine blk_drewN ?_ _ | refine blk_drew ?_ | refine blk_alloc ?_ _)); refine blk_put (cs := #[.string t291, .string t292, .string t293, .slice none 0 0]) ?_ 3 _ rfl; (with_reducible repeat (first | refine blk_drewN ?_ _ | refine blk_drew ?_ | refine blk_alloc ?_ _)); refine blk_put (cs := #[.string t291, .string t292, .string (⟨#[]⟩ : ByteArray), .slice none 0 0]) ?_ 2 _ rfl; (with_reducible repeat (first | refine blk_drewN ?_ _ | refine blk_drew ?_ | refine blk_alloc ?_ _)); refine blk_put (cs := #[.string t291, .string (⟨#[]⟩ : ByteArray), .string (⟨#[]⟩ : ByteArray), .slice none 0 0]) ?_ 1 _ rfl; (with_reducible repeat (first | refine blk_drewN ?_ _ | refine blk_drew ?_ | refine blk_alloc ?_ _)); refine blk_put (cs := #[.string (⟨#[]⟩ : ByteArray), .string (⟨#[]⟩ : ByteArray), .string (⟨#[]⟩ : ByteArray), .slice none 0 0]) ?_ 0 _ rfl; (with_reducible repeat (first | refine blk_drewN ?_ _ | refine blk_drew ?_ | refine blk_alloc ?_ _)); exact BK298.out) hb); have n4_ := Aside0.mk (below_step (by repeat (first | (with_reducible first | exact HB.out | apply below_alloc | apply pw_below_drewN | apply below_drew1 | refine below_set ?_ GE290.out | refine below_set ?_ GE298.out) | exact HB.out)) hb); clear HO288; clear HO296; clear BK290; clear BK298; clear HB; have HO288 := n0_; have HO296 := n1_; have BK290 := n2_; have BK298 := n3_; have HB := n4_; clear n0_ n1_ n2_ n3_ n4_; (try clear hb); (try clear hb2); (try clear hk); (try clear hi)))
  go_ret
  exact ⟨by first | rfl | (simp [errW_none, errW_some] <;> rfl) | (simp [*, errW_none, errW_some] <;> rfl), by repeat (first | (with_reducible first | exact HB.out | apply below_alloc | apply pw_below_drewN | apply below_drew1 | refine below_set ?_ GE290.out | refine below_set ?_ GE298.out) | exact HB.out)⟩

end Go.Proofs.YtjadpeahoaogcaaDoor.P
