-- Written by this project's own program (wip/tools/hp.py), driving the kit's print; hand texts among it. Not trusted: Lean checks it.
-- half the indentation
import Derived.Test.YtjneghnknfhboaaDoorP0
import Derived.Test.YtjneghnknfhboaaDoorP20
import Derived.Test.YtjneghnknfhboaaDoorP28
namespace Go.Proofs.YtjneghnknfhboaaDoor.P
open Go.RowKit Go.Proofs.YtjneghnknfhboaaDoorW.PrintWords Go.Proofs.YtjneghnknfhboaaDoorW.PrintLast Go.Proofs.YtjneghnknfhboaaDoorW.PrintMore
attribute [local go_sem] max2_int min2_int max_two min_two max_three min_three max_four min_four   -- for this text's walks alone
set_option linter.unusedVariables false
set_option linter.unusedSimpArgs false

/-! ### graftwoodref03_Cmp: function 44 -/
mutual
def graftwoodref03_Cmp.j0 : Nat → Int → Int → Bool → ByteArray → ByteArray → ByteArray → List ByteArray → ByteArray → ByteArray → ByteArray → List ByteArray → Option (Int)
 | 0, _, _, _, _, _, _, _, _, _, _, _ => none
 | k + 1, x12, x13, x61, x323000, x323001, x323002, x323003, x331000, x331001, x331002, x331003 => if x61 = true then (some 0) else (if x12 = 0 then (some 1) else (if x13 = 0 then (some (-1)) else (graftwoodref03_Cmp.l0 k x12 x13 0 x323000 x323001 x323002 x323003 x331000 x331001 x331002 x331003)))
def graftwoodref03_Cmp.l0 : Nat → Int → Int → Int → ByteArray → ByteArray → ByteArray → List ByteArray → ByteArray → ByteArray → ByteArray → List ByteArray → Option (Int)
 | 0, _, _, _, _, _, _, _, _, _, _, _ => none
 | k + 1, x12, x13, x14, x323000, x323001, x323002, x323003, x331000, x331001, x331002, x331003 => if x14 < x12 then (graftwoodref03_Cmp.j2 k x12 x13 x14 (decide (x14 < x13)) x323000 x323001 x323002 x323003 x331000 x331001 x331002 x331003) else (graftwoodref03_Cmp.j2 k x12 x13 x14 false x323000 x323001 x323002 x323003 x331000 x331001 x331002 x331003)
def graftwoodref03_Cmp.j2 : Nat → Int → Int → Int → Bool → ByteArray → ByteArray → ByteArray → List ByteArray → ByteArray → ByteArray → ByteArray → List ByteArray → Option (Int)
 | 0, _, _, _, _, _, _, _, _, _, _, _, _ => none
 | k + 1, x12, x13, x14, x73, x323000, x323001, x323002, x323003, x331000, x331001, x331002, x331003 => if x73 = true then (if 0 ≤ x14 then (if x14 < (x323003.length : Int) then (if x14 < (x331003.length : Int) then ((graftwoodref03_words.f k (rdOf ByteArray.empty x323003 x14) (rdOf ByteArray.empty x331003 x14)).bind fun t336 => (if t336 = 0 then (graftwoodref03_Cmp.l0 k x12 x13 (wrap64 (x14 + 1)) x323000 x323001 x323002 x323003 x331000 x331001 x331002 x331003) else (some t336))) else (none)) else (none)) else (none)) else (if x12 < x13 then (some (-1)) else (if x12 > x13 then (some 1) else (some 0)))
end
def graftwoodref03_Cmp.f (k : Nat) (a0 : ByteArray) (a1 : ByteArray) : Option (Int) := (graftwoodref03_Split.f k a0).bind fun bt315 => ((graftwoodref03_Split.f k a1).bind fun bt323 => ((graftwoodref02_Cmp.f k bt315.1 bt323.1).bind fun t331 => (if t331 = 0 then ((graftwoodref02_Cmp.f k bt315.2.1 bt323.2.1).bind fun t332 => (if t332 = 0 then ((graftwoodref02_Cmp.f k bt315.2.2.1 bt323.2.2.1).bind fun t333 => (if t333 = 0 then (if (bt315.2.2.2.1.length : Int) = 0 then (graftwoodref03_Cmp.j0 k (bt315.2.2.2.1.length : Int) (bt323.2.2.2.1.length : Int) ((bt323.2.2.2.1.length : Int) == 0) bt315.1 bt315.2.1 bt315.2.2.1 bt315.2.2.2.1 bt323.1 bt323.2.1 bt323.2.2.1 bt323.2.2.2.1) else (graftwoodref03_Cmp.j0 k (bt315.2.2.2.1.length : Int) (bt323.2.2.2.1.length : Int) false bt315.1 bt315.2.1 bt315.2.2.1 bt315.2.2.2.1 bt323.1 bt323.2.1 bt323.2.2.1 bt323.2.2.2.1)) else (some t333))) else (some t332))) else (some t331))))
theorem graftwoodref03_Cmp.mono_l : ∀ k, (∀ y0 y1 y2 y3 y4 y5 y6 y7 y8 y9 y10, LeO (graftwoodref03_Cmp.j0 k y0 y1 y2 y3 y4 y5 y6 y7 y8 y9 y10) (graftwoodref03_Cmp.j0 (k + 1) y0 y1 y2 y3 y4 y5 y6 y7 y8 y9 y10)) ∧ (∀ y0 y1 y2 y3 y4 y5 y6 y7 y8 y9 y10, LeO (graftwoodref03_Cmp.l0 k y0 y1 y2 y3 y4 y5 y6 y7 y8 y9 y10) (graftwoodref03_Cmp.l0 (k + 1) y0 y1 y2 y3 y4 y5 y6 y7 y8 y9 y10)) ∧ (∀ y0 y1 y2 y3 y4 y5 y6 y7 y8 y9 y10 y11, LeO (graftwoodref03_Cmp.j2 k y0 y1 y2 y3 y4 y5 y6 y7 y8 y9 y10 y11) (graftwoodref03_Cmp.j2 (k + 1) y0 y1 y2 y3 y4 y5 y6 y7 y8 y9 y10 y11))
 | 0 => ⟨fun _ _ _ _ _ _ _ _ _ _ _ r h => by simp [graftwoodref03_Cmp.j0] at h, fun _ _ _ _ _ _ _ _ _ _ _ r h => by simp [graftwoodref03_Cmp.l0] at h, fun _ _ _ _ _ _ _ _ _ _ _ _ r h => by simp [graftwoodref03_Cmp.j2] at h⟩
 | k + 1 => by
  obtain ⟨ih0, ih1, ih2⟩ := graftwoodref03_Cmp.mono_l k
  refine ⟨?_, ?_, ?_⟩
  ·intro y0 y1 y2 y3 y4 y5 y6 y7 y8 y9 y10
   unfold graftwoodref03_Cmp.j0
   repeat' first
   | (with_reducible exact ih0 _ _ _ _ _ _ _ _ _ _ _)
   | (with_reducible exact ih1 _ _ _ _ _ _ _ _ _ _ _)
   | (with_reducible exact ih2 _ _ _ _ _ _ _ _ _ _ _ _)
   | (with_reducible exact graftwoodref02_Cmp.mono _ _ _)
   | (with_reducible exact graftwoodref03_Split.mono _ _)
   | (with_reducible exact graftwoodref03_words.mono _ _ _)
   | (with_reducible exact LeO.refl _)
   | (with_reducible exact LeO.none _)
   | (with_reducible refine LeO.ite ?_ ?_)
   | (with_reducible refine LeO.bind ?_ (fun _ => ?_))
   | exact ih0 _ _ _ _ _ _ _ _ _ _ _
   | exact ih1 _ _ _ _ _ _ _ _ _ _ _
   | exact ih2 _ _ _ _ _ _ _ _ _ _ _ _
   | exact graftwoodref02_Cmp.mono _ _ _
   | exact graftwoodref03_Split.mono _ _
   | exact graftwoodref03_words.mono _ _ _
   | exact LeO.none _
   | refine LeO.ite ?_ ?_
   | refine LeO.bind ?_ (fun _ => ?_)
  ·intro y0 y1 y2 y3 y4 y5 y6 y7 y8 y9 y10
   unfold graftwoodref03_Cmp.l0
   repeat' first
   | (with_reducible exact ih0 _ _ _ _ _ _ _ _ _ _ _)
   | (with_reducible exact ih1 _ _ _ _ _ _ _ _ _ _ _)
   | (with_reducible exact ih2 _ _ _ _ _ _ _ _ _ _ _ _)
   | (with_reducible exact graftwoodref02_Cmp.mono _ _ _)
   | (with_reducible exact graftwoodref03_Split.mono _ _)
   | (with_reducible exact graftwoodref03_words.mono _ _ _)
   | (with_reducible exact LeO.refl _)
   | (with_reducible exact LeO.none _)
   | (with_reducible refine LeO.ite ?_ ?_)
   | (with_reducible refine LeO.bind ?_ (fun _ => ?_))
   | exact ih0 _ _ _ _ _ _ _ _ _ _ _
   | exact ih1 _ _ _ _ _ _ _ _ _ _ _
   | exact ih2 _ _ _ _ _ _ _ _ _ _ _ _
   | exact graftwoodref02_Cmp.mono _ _ _
   | exact graftwoodref03_Split.mono _ _
   | exact graftwoodref03_words.mono _ _ _
   | exact LeO.none _
   | refine LeO.ite ?_ ?_
   | refine LeO.bind ?_ (fun _ => ?_)
  ·intro y0 y1 y2 y3 y4 y5 y6 y7 y8 y9 y10 y11
   unfold graftwoodref03_Cmp.j2
   repeat' first
   | (with_reducible exact ih0 _ _ _ _ _ _ _ _ _ _ _)
   | (with_reducible exact ih1 _ _ _ _ _ _ _ _ _ _ _)
   | (with_reducible exact ih2 _ _ _ _ _ _ _ _ _ _ _ _)
   | (with_reducible exact graftwoodref02_Cmp.mono _ _ _)
   | (with_reducible exact graftwoodref03_Split.mono _ _)
   | (with_reducible exact graftwoodref03_words.mono _ _ _)
   | (with_reducible exact LeO.refl _)
   | (with_reducible exact LeO.none _)
   | (with_reducible refine LeO.ite ?_ ?_)
   | (with_reducible refine LeO.bind ?_ (fun _ => ?_))
   | exact ih0 _ _ _ _ _ _ _ _ _ _ _
   | exact ih1 _ _ _ _ _ _ _ _ _ _ _
   | exact ih2 _ _ _ _ _ _ _ _ _ _ _ _
   | exact graftwoodref02_Cmp.mono _ _ _
   | exact graftwoodref03_Split.mono _ _
   | exact graftwoodref03_words.mono _ _ _
   | exact LeO.none _
   | refine LeO.ite ?_ ?_
   | refine LeO.bind ?_ (fun _ => ?_)
theorem graftwoodref03_Cmp.mono : ∀ a0 a1 k, LeO (graftwoodref03_Cmp.f k a0 a1) (graftwoodref03_Cmp.f (k + 1) a0 a1) := by
 intro a0 a1 k
 obtain ⟨ih0, ih1, ih2⟩ := graftwoodref03_Cmp.mono_l k
 unfold graftwoodref03_Cmp.f
 repeat' first
   | (with_reducible exact ih0 _ _ _ _ _ _ _ _ _ _ _)
   | (with_reducible exact ih1 _ _ _ _ _ _ _ _ _ _ _)
   | (with_reducible exact ih2 _ _ _ _ _ _ _ _ _ _ _ _)
   | (with_reducible exact graftwoodref02_Cmp.mono _ _ _)
   | (with_reducible exact graftwoodref03_Split.mono _ _)
   | (with_reducible exact graftwoodref03_words.mono _ _ _)
   | (with_reducible exact LeO.refl _)
   | (with_reducible exact LeO.none _)
   | (with_reducible refine LeO.ite ?_ ?_)
   | (with_reducible refine LeO.bind ?_ (fun _ => ?_))
   | exact ih0 _ _ _ _ _ _ _ _ _ _ _
   | exact ih1 _ _ _ _ _ _ _ _ _ _ _
   | exact ih2 _ _ _ _ _ _ _ _ _ _ _ _
   | exact graftwoodref02_Cmp.mono _ _ _
   | exact graftwoodref03_Split.mono _ _
   | exact graftwoodref03_words.mono _ _ _
   | exact LeO.none _
   | refine LeO.ite ?_ ?_
   | refine LeO.bind ?_ (fun _ => ?_)
def graftwoodref03_Cmp.T12 : Bool × List (List Nat × List Nat) := (true, [([], []), ([0], [0]), ([1], [1]), ([], []), ([3], [3]), ([4], [4]), ([2, 0, 1, 2], [2]), ([5, 6, 0, 1, 2, 3, 4, 5, 6], [5])])
def graftwoodref03_Cmp.B12 : List Nat := [0, 1, 3, 0, 8, 24, 7, 127]
theorem graftwoodref03_Cmp.tab12 : rtab .any (opsOf Tryd.f44 12) = graftwoodref03_Cmp.T12 := by kernel_rfl
theorem graftwoodref03_Cmp.bits12 : waitsOk graftwoodref03_Cmp.T12.2 graftwoodref03_Cmp.B12 = true := by kernel_rfl
def graftwoodref03_Cmp.T22 : Bool × List (List Nat × List Nat) := (true, [([], []), ([0], [0]), ([], []), ([1, 2], [1, 2]), ([3], [3]), ([], []), ([5], [5]), ([], []), ([6, 7], [6, 7]), ([8], [8]), ([4, 9], [4, 9]), ([10, 10, 0, 1, 2, 3, 4, 5, 6, 7, 8, 9, 10], [10])])
def graftwoodref03_Cmp.B22 : List Nat := [0, 1, 0, 7, 15, 0, 32, 0, 224, 480, 1023, 2047]
theorem graftwoodref03_Cmp.tab22 : rtab .any (opsOf Tryd.f44 22) = graftwoodref03_Cmp.T22 := by kernel_rfl
theorem graftwoodref03_Cmp.bits22 : waitsOk graftwoodref03_Cmp.T22.2 graftwoodref03_Cmp.B22 = true := by kernel_rfl
set_option maxHeartbeats 8000000 in
set_option maxRecDepth 100000 in
theorem graftwoodref03_Cmp.calls (k : Nat) (a0 : ByteArray) (a1 : ByteArray) (r : Int) (w : World) (h : graftwoodref03_Cmp.f k a0 a1 = some r) :
  Calls Tryd.prog 44 #[.string a0, .string a1] w fun e w' => e = .returned (.int .i64 r) ∧ Below w.heap.size w w' := by
 have hu64 := Tryd.underlying64
 have HB := Aside0.mk (Below.refl w.heap.size w)
 have H : ((graftwoodref03_Split.f k a0).bind fun bt315 => ((graftwoodref03_Split.f k a1).bind fun bt323 => ((graftwoodref02_Cmp.f k bt315.1 bt323.1).bind fun t331 => (if t331 = 0 then ((graftwoodref02_Cmp.f k bt315.2.1 bt323.2.1).bind fun t332 => (if t332 = 0 then ((graftwoodref02_Cmp.f k bt315.2.2.1 bt323.2.2.1).bind fun t333 => (if t333 = 0 then (if (bt315.2.2.2.1.length : Int) = 0 then (graftwoodref03_Cmp.j0 k (bt315.2.2.2.1.length : Int) (bt323.2.2.2.1.length : Int) ((bt323.2.2.2.1.length : Int) == 0) bt315.1 bt315.2.1 bt315.2.2.1 bt315.2.2.2.1 bt323.1 bt323.2.1 bt323.2.2.1 bt323.2.2.2.1) else (graftwoodref03_Cmp.j0 k (bt315.2.2.2.1.length : Int) (bt323.2.2.2.1.length : Int) false bt315.1 bt315.2.1 bt315.2.2.1 bt315.2.2.2.1 bt323.1 bt323.2.1 bt323.2.2.1 bt323.2.2.2.1)) else (some t333))) else (some t332))) else (some t331))))) = some r := h
 clear h
 replace H := Option.bind_eq_some_iff.mp H
 obtain ⟨⟨t315, t316, t317, t318, t321⟩, A30, H⟩ := H
 replace H : ((graftwoodref03_Split.f k a1).bind fun bt323 => ((graftwoodref02_Cmp.f k t315 bt323.1).bind fun t331 => (if t331 = 0 then ((graftwoodref02_Cmp.f k t316 bt323.2.1).bind fun t332 => (if t332 = 0 then ((graftwoodref02_Cmp.f k t317 bt323.2.2.1).bind fun t333 => (if t333 = 0 then (if (t318.length : Int) = 0 then (graftwoodref03_Cmp.j0 k (t318.length : Int) (bt323.2.2.2.1.length : Int) ((bt323.2.2.2.1.length : Int) == 0) t315 t316 t317 t318 bt323.1 bt323.2.1 bt323.2.2.1 bt323.2.2.2.1) else (graftwoodref03_Cmp.j0 k (t318.length : Int) (bt323.2.2.2.1.length : Int) false t315 t316 t317 t318 bt323.1 bt323.2.1 bt323.2.2.1 bt323.2.2.2.1)) else (some t333))) else (some t332))) else (some t331)))) = some r := H
 have A3 := Aside0.mk A30
 clear A30
 replace H := Option.bind_eq_some_iff.mp H
 obtain ⟨⟨t323, t324, t325, t326, t329⟩, A40, H⟩ := H
 replace H : ((graftwoodref02_Cmp.f k t315 t323).bind fun t331 => (if t331 = 0 then ((graftwoodref02_Cmp.f k t316 t324).bind fun t332 => (if t332 = 0 then ((graftwoodref02_Cmp.f k t317 t325).bind fun t333 => (if t333 = 0 then (if (t318.length : Int) = 0 then (graftwoodref03_Cmp.j0 k (t318.length : Int) (t326.length : Int) ((t326.length : Int) == 0) t315 t316 t317 t318 t323 t324 t325 t326) else (graftwoodref03_Cmp.j0 k (t318.length : Int) (t326.length : Int) false t315 t316 t317 t318 t323 t324 t325 t326)) else (some t333))) else (some t332))) else (some t331))) = some r := H
 have A4 := Aside0.mk A40
 clear A40
 replace H := Option.bind_eq_some_iff.mp H
 obtain ⟨t331, A50, H⟩ := H
 replace H : (if t331 = 0 then ((graftwoodref02_Cmp.f k t316 t324).bind fun t332 => (if t332 = 0 then ((graftwoodref02_Cmp.f k t317 t325).bind fun t333 => (if t333 = 0 then (if (t318.length : Int) = 0 then (graftwoodref03_Cmp.j0 k (t318.length : Int) (t326.length : Int) ((t326.length : Int) == 0) t315 t316 t317 t318 t323 t324 t325 t326) else (graftwoodref03_Cmp.j0 k (t318.length : Int) (t326.length : Int) false t315 t316 t317 t318 t323 t324 t325 t326)) else (some t333))) else (some t332))) else (some t331)) = some r := H
 have A5 := Aside0.mk A50
 clear A50
 by_cases c6 : t331 = 0
 ·rw [if_pos c6] at H
  have c6b0 : (t331 == 0) = true := beq_iff_eq.mpr c6
  have c6b1 : (t331 != 0) = false := bne_eq_false_iff_eq.mpr c6
  clear c6
  replace H := Option.bind_eq_some_iff.mp H
  obtain ⟨t332, A70, H⟩ := H
  replace H : (if t332 = 0 then ((graftwoodref02_Cmp.f k t317 t325).bind fun t333 => (if t333 = 0 then (if (t318.length : Int) = 0 then (graftwoodref03_Cmp.j0 k (t318.length : Int) (t326.length : Int) ((t326.length : Int) == 0) t315 t316 t317 t318 t323 t324 t325 t326) else (graftwoodref03_Cmp.j0 k (t318.length : Int) (t326.length : Int) false t315 t316 t317 t318 t323 t324 t325 t326)) else (some t333))) else (some t332)) = some r := H
  have A7 := Aside0.mk A70
  clear A70
  by_cases c8 : t332 = 0
  ·rw [if_pos c8] at H
   have c8b0 : (t332 == 0) = true := beq_iff_eq.mpr c8
   have c8b1 : (t332 != 0) = false := bne_eq_false_iff_eq.mpr c8
   clear c8
   replace H := Option.bind_eq_some_iff.mp H
   obtain ⟨t333, A90, H⟩ := H
   replace H : (if t333 = 0 then (if (t318.length : Int) = 0 then (graftwoodref03_Cmp.j0 k (t318.length : Int) (t326.length : Int) ((t326.length : Int) == 0) t315 t316 t317 t318 t323 t324 t325 t326) else (graftwoodref03_Cmp.j0 k (t318.length : Int) (t326.length : Int) false t315 t316 t317 t318 t323 t324 t325 t326)) else (some t333)) = some r := H
   have A9 := Aside0.mk A90
   clear A90
   by_cases c10 : t333 = 0
   ·rw [if_pos c10] at H
    have c10b0 : (t333 == 0) = true := beq_iff_eq.mpr c10
    have c10b1 : (t333 != 0) = false := bne_eq_false_iff_eq.mpr c10
    clear c10
    have HC11 := Aside0.mk H
    clear H
    go_enter Tryd.func44, Tryd.ntmps44
    try go_wp2_with (first | ((with_reducible refine gate_callee (f := 36) rfl ?_); refine goesL_ (some 18) rfl rfl Tryd.func36 (by kernel_rfl) rfl #[.string a0] rfl (by (try simp only [List.map_toArray, List.map_cons, List.map_nil]); first | done | rfl | (simp only [List.length_drop, List.length_take]; rfl)) ?_; (with_reducible refine (graftwoodref03_Split.calls k a0 t315 t316 t317 t318 t321 _ A3.out).mono ?_); rintro e w12 ⟨v319, rfl, ho0, hb⟩; refine ⟨_, rfl, ?_⟩; have n0_ := Aside0.mk (Kd.R_lower ho0 (below_size (by repeat (first | (with_reducible first | exact HB.out | apply below_alloc | apply pw_below_drewN | apply below_drew1) | exact HB.out)))); have n1_ := Aside0.mk (below_step (by repeat (first | (with_reducible first | exact HB.out | apply below_alloc | apply pw_below_drewN | apply below_drew1) | exact HB.out)) hb); clear HB; have HO320 := n0_; have HB := n1_; clear n0_ n1_; (try clear hb); (try clear hb2); (try clear hk); (try clear hi); (try clear ho0)) | ((with_reducible refine gate_dst (N := 5) rfl ?_); refine box_event ?hg (N := 5) ?hd (cs := #[.string (⟨#[]⟩ : ByteArray), .string (⟨#[]⟩ : ByteArray), .string (⟨#[]⟩ : ByteArray), .slice none 0 0]) (t := 64) ?hr ?_; (case hd => rfl); (case hg => rfl); (case hr => first | (go_simp; done) | (go_simp; rfl)); intro gb322 hg w13 hbox hb; have n0_ := Aside0.mk (Kd.R_below (by (with_reducible repeat (first | apply Kd.R_alloc | apply Kd.R_drewN | apply Kd.R_drew)); exact HO320.out) hb); have n1_ := Aside0.mk (below_step (by repeat (first | (with_reducible first | exact HB.out | apply below_alloc | apply pw_below_drewN | apply below_drew1) | exact HB.out)) hb); have n2_ := Aside0.mk (hbox); have n3_ := Aside0.mk ((by rw [hg]; exact (below_size (by repeat (first | (with_reducible first | exact HB.out | apply below_alloc | apply pw_below_drewN | apply below_drew1) | exact HB.out))) : w.heap.size ≤ gb322)); have n4_ := Aside0.mk ((by rw [hg]; exact (below_size (by repeat (first | (with_reducible first | exact HB.out | apply below_alloc | apply pw_below_drewN | apply below_drew1) | exact HB.out))) : w.heap.size ≤ gb322)); clear HO320; clear HB; have HO320 := n0_; have HB := n1_; have BK322 := n2_; have GW322 := n3_; have GE322 := n4_; clear n0_ n1_ n2_ n3_ n4_; clear hb hbox hg; have hcz14_0 : w13.cell? ⟨gb322, 0, none⟩ = some (.string (⟨#[]⟩ : ByteArray)) := (blk_cell BK322.out 0).trans rfl; have hcz14_1 : w13.cell? ⟨gb322, 1, none⟩ = some (.string (⟨#[]⟩ : ByteArray)) := (blk_cell BK322.out 1).trans rfl; have hcz14_2 : w13.cell? ⟨gb322, 2, none⟩ = some (.string (⟨#[]⟩ : ByteArray)) := (blk_cell BK322.out 2).trans rfl; have hcz14_3 : w13.cell? ⟨gb322, 3, none⟩ = some (.slice none 0 0) := (blk_cell BK322.out 3).trans rfl; have hfz14_0 := blk_frozen BK322.out 0; have hfz14_1 := blk_frozen BK322.out 1; have hfz14_2 := blk_frozen BK322.out 2; have hfz14_3 := blk_frozen BK322.out 3; obtain ⟨Ao15, co15, eo15⟩ := Kd.R_slice HO320.out; subst eo15) | ((with_reducible refine gate_callee (f := 36) rfl ?_); refine goesL_ (some 23) rfl rfl Tryd.func36 (by kernel_rfl) rfl #[.string a1] rfl (by (try simp only [List.map_toArray, List.map_cons, List.map_nil]); first | done | rfl | (simp only [List.length_drop, List.length_take]; rfl)) ?_; (with_reducible refine (graftwoodref03_Split.calls k a1 t323 t324 t325 t326 t329 _ A4.out).mono ?_); rintro e w16 ⟨v327, rfl, ho0, hb⟩; refine ⟨_, rfl, ?_⟩; have n0_ := Aside0.mk (Kd.R_elder' (by (with_reducible repeat (first | apply Kd.R_alloc | apply Kd.R_drewN | apply Kd.R_drew)); exact (Kd.R_mono (Kd.R_far (p := ⟨gb322, 3, none⟩) (Kd.R_far (p := ⟨gb322, 2, none⟩) (Kd.R_far (p := ⟨gb322, 1, none⟩) (Kd.R_far (p := ⟨gb322, 0, none⟩) (Kd.R_types HO320.out BK322.out (by decide)) (fun _ hk => hk.2) (.string t315)) (fun _ hk => hk.2) (.string t316)) (fun _ hk => hk.2) (.string t317)) (fun _ hk => hk.2) (.slice Ao15 t318.length co15)) (fun _ h_ => h_.1))) (Kd.R_base ho0) hb); have n1_ := Aside0.mk (Kd.R_lower (Kd.R_new' ho0 (Kd.R_lt (by (with_reducible repeat (first | apply Kd.R_alloc | apply Kd.R_drewN | apply Kd.R_drew)); exact (Kd.R_mono (Kd.R_far (p := ⟨gb322, 3, none⟩) (Kd.R_far (p := ⟨gb322, 2, none⟩) (Kd.R_far (p := ⟨gb322, 1, none⟩) (Kd.R_far (p := ⟨gb322, 0, none⟩) (Kd.R_types HO320.out BK322.out (by decide)) (fun _ hk => hk.2) (.string t315)) (fun _ hk => hk.2) (.string t316)) (fun _ hk => hk.2) (.string t317)) (fun _ hk => hk.2) (.slice Ao15 t318.length co15)) (fun _ h_ => h_.1))))) (below_size (by repeat (first | (with_reducible first | exact HB.out | apply below_alloc | apply pw_below_drewN | apply below_drew1 | refine below_set ?_ GE322.out) | exact HB.out)))); have n2_ := Aside0.mk (blk_below (g := gb322) (o := .cells #[.string t315, .string t316, .string t317, .slice Ao15 t318.length co15] 64 (0, 0)) (by (with_reducible repeat (first | refine blk_drewN ?_ _ | refine blk_drew ?_ | refine blk_alloc ?_ _)); refine blk_put (cs := #[.string t315, .string t316, .string t317, .slice none 0 0]) ?_ 3 _ rfl; (with_reducible repeat (first | refine blk_drewN ?_ _ | refine blk_drew ?_ | refine blk_alloc ?_ _)); refine blk_put (cs := #[.string t315, .string t316, .string (⟨#[]⟩ : ByteArray), .slice none 0 0]) ?_ 2 _ rfl; (with_reducible repeat (first | refine blk_drewN ?_ _ | refine blk_drew ?_ | refine blk_alloc ?_ _)); refine blk_put (cs := #[.string t315, .string (⟨#[]⟩ : ByteArray), .string (⟨#[]⟩ : ByteArray), .slice none 0 0]) ?_ 1 _ rfl; (with_reducible repeat (first | refine blk_drewN ?_ _ | refine blk_drew ?_ | refine blk_alloc ?_ _)); refine blk_put (cs := #[.string (⟨#[]⟩ : ByteArray), .string (⟨#[]⟩ : ByteArray), .string (⟨#[]⟩ : ByteArray), .slice none 0 0]) ?_ 0 _ rfl; (with_reducible repeat (first | refine blk_drewN ?_ _ | refine blk_drew ?_ | refine blk_alloc ?_ _)); exact BK322.out) hb); have n3_ := Aside0.mk (below_step (by repeat (first | (with_reducible first | exact HB.out | apply below_alloc | apply pw_below_drewN | apply below_drew1 | refine below_set ?_ GE322.out) | exact HB.out)) hb); clear HO320; clear BK322; clear HB; have HO320 := n0_; have HO328 := n1_; have BK322 := n2_; have HB := n3_; clear n0_ n1_ n2_ n3_; (try clear hb); (try clear hb2); (try clear hk); (try clear hi); (try clear ho0)) | ((with_reducible refine gate_dst (N := 7) rfl ?_); refine box_event ?hg (N := 7) ?hd (cs := #[.string (⟨#[]⟩ : ByteArray), .string (⟨#[]⟩ : ByteArray), .string (⟨#[]⟩ : ByteArray), .slice none 0 0]) (t := 64) ?hr ?_; (case hd => rfl); (case hg => rfl); (case hr => first | (go_simp; done) | (go_simp; rfl)); intro gb330 hg w17 hbox hb; have n0_ := Aside0.mk (Kd.R_below (by (with_reducible repeat (first | apply Kd.R_alloc | apply Kd.R_drewN | apply Kd.R_drew)); exact HO320.out) hb); have n1_ := Aside0.mk (Kd.R_below (by (with_reducible repeat (first | apply Kd.R_alloc | apply Kd.R_drewN | apply Kd.R_drew)); exact HO328.out) hb); have n2_ := Aside0.mk (blk_below (g := gb322) (o := .cells #[.string t315, .string t316, .string t317, .slice Ao15 t318.length co15] 64 (0, 0)) (by (with_reducible repeat (first | refine blk_drewN ?_ _ | refine blk_drew ?_ | refine blk_alloc ?_ _)); exact BK322.out) hb); have n3_ := Aside0.mk (below_step (by repeat (first | (with_reducible first | exact HB.out | apply below_alloc | apply pw_below_drewN | apply below_drew1 | refine below_set ?_ GE322.out) | exact HB.out)) hb); have n4_ := Aside0.mk (hbox); have n5_ := Aside0.mk ((by rw [hg]; exact (below_size (by repeat (first | (with_reducible first | exact HB.out | apply below_alloc | apply pw_below_drewN | apply below_drew1 | refine below_set ?_ GE322.out) | exact HB.out))) : w.heap.size ≤ gb330)); have n6_ := Aside0.mk ((by rw [hg]; exact (below_size (by repeat (first | (with_reducible first | exact HB.out | apply below_alloc | apply pw_below_drewN | apply below_drew1 | refine below_set ?_ GE322.out) | exact HB.out))) : w.heap.size ≤ gb330)); have n7_ := Aside0.mk ((by rw [hg]; exact Nat.ne_of_lt (blk_lt (g := gb322) (o := .cells #[.string t315, .string t316, .string t317, .slice Ao15 t318.length co15] 64 (0, 0)) (by (with_reducible repeat (first | refine blk_drewN ?_ _ | refine blk_drew ?_ | refine blk_alloc ?_ _)); exact BK322.out)) : gb322 ≠ gb330)); have n8_ := Aside0.mk ((by rw [hg]; exact Nat.ne_of_gt (blk_lt (g := gb322) (o := .cells #[.string t315, .string t316, .string t317, .slice Ao15 t318.length co15] 64 (0, 0)) (by (with_reducible repeat (first | refine blk_drewN ?_ _ | refine blk_drew ?_ | refine blk_alloc ?_ _)); exact BK322.out)) : gb330 ≠ gb322)); clear HO320; clear HO328; clear BK322; clear HB; have HO320 := n0_; have HO328 := n1_; have BK322 := n2_; have HB := n3_; have BK330 := n4_; have GW330 := n5_; have GE330 := n6_; have NB322_330 := n7_; have NB330_322 := n8_; clear n0_ n1_ n2_ n3_ n4_ n5_ n6_ n7_ n8_; clear hb hbox hg; have hnb18 := NB330_322.out; have hnc18 := NB322_330.out; have hcz19_0 : w17.cell? ⟨gb330, 0, none⟩ = some (.string (⟨#[]⟩ : ByteArray)) := (blk_cell BK330.out 0).trans rfl; have hcz19_1 : w17.cell? ⟨gb330, 1, none⟩ = some (.string (⟨#[]⟩ : ByteArray)) := (blk_cell BK330.out 1).trans rfl; have hcz19_2 : w17.cell? ⟨gb330, 2, none⟩ = some (.string (⟨#[]⟩ : ByteArray)) := (blk_cell BK330.out 2).trans rfl; have hcz19_3 : w17.cell? ⟨gb330, 3, none⟩ = some (.slice none 0 0) := (blk_cell BK330.out 3).trans rfl; have hfz19_0 := blk_frozen BK330.out 0; have hfz19_1 := blk_frozen BK330.out 1; have hfz19_2 := blk_frozen BK330.out 2; have hfz19_3 := blk_frozen BK330.out 3; obtain ⟨Ao20, co20, eo20⟩ := Kd.R_slice HO328.out; subst eo20; have hcz21_0 : w17.cell? ⟨gb322, 0, none⟩ = some (.string t315) := (blk_cell BK322.out 0).trans rfl; have hcz21_1 : w17.cell? ⟨gb322, 1, none⟩ = some (.string t316) := (blk_cell BK322.out 1).trans rfl; have hcz21_2 : w17.cell? ⟨gb322, 2, none⟩ = some (.string t317) := (blk_cell BK322.out 2).trans rfl; have hcz21_3 : w17.cell? ⟨gb322, 3, none⟩ = some (.slice Ao15 t318.length co15) := (blk_cell BK322.out 3).trans rfl; have hfz21_0 := blk_frozen BK322.out 0; have hfz21_1 := blk_frozen BK322.out 1; have hfz21_2 := blk_frozen BK322.out 2; have hfz21_3 := blk_frozen BK322.out 3) | ((with_reducible refine gate_callee (f := 52) rfl ?_); refine goesL_ (some 30) rfl rfl Tryd.func52 (by kernel_rfl) rfl #[.string t315, .string t323] rfl (by (try simp only [List.map_toArray, List.map_cons, List.map_nil]); first | done | rfl | (simp only [List.length_drop, List.length_take]; rfl)) ?_; (with_reducible refine (graftwoodref02_Cmp.calls k t315 t323 t331 _ A5.out).mono ?_); rintro e w22 ⟨rfl, hb⟩; refine ⟨_, rfl, ?_⟩; have n0_ := Aside0.mk (Kd.R_below (by (with_reducible repeat (first | apply Kd.R_alloc | apply Kd.R_drewN | apply Kd.R_drew)); exact (Kd.R_mono (Kd.R_far (p := ⟨gb330, 3, none⟩) (Kd.R_far (p := ⟨gb330, 2, none⟩) (Kd.R_far (p := ⟨gb330, 1, none⟩) (Kd.R_far (p := ⟨gb330, 0, none⟩) (Kd.R_types HO320.out BK330.out (by decide)) (fun _ hk => hk.2) (.string t323)) (fun _ hk => hk.2) (.string t324)) (fun _ hk => hk.2) (.string t325)) (fun _ hk => hk.2) (.slice Ao20 t326.length co20)) (fun _ h_ => h_.1))) hb); have n1_ := Aside0.mk (Kd.R_below (by (with_reducible repeat (first | apply Kd.R_alloc | apply Kd.R_drewN | apply Kd.R_drew)); exact (Kd.R_mono (Kd.R_far (p := ⟨gb330, 3, none⟩) (Kd.R_far (p := ⟨gb330, 2, none⟩) (Kd.R_far (p := ⟨gb330, 1, none⟩) (Kd.R_far (p := ⟨gb330, 0, none⟩) (Kd.R_types HO328.out BK330.out (by decide)) (fun _ hk => hk.2) (.string t323)) (fun _ hk => hk.2) (.string t324)) (fun _ hk => hk.2) (.string t325)) (fun _ hk => hk.2) (.slice Ao20 t326.length co20)) (fun _ h_ => h_.1))) hb); have n2_ := Aside0.mk (blk_below (g := gb322) (o := .cells #[.string t315, .string t316, .string t317, .slice Ao15 t318.length co15] 64 (0, 0)) (by (with_reducible repeat (first | refine blk_drewN ?_ _ | refine blk_drew ?_ | refine blk_alloc ?_ _)); refine blk_far ?_ NB322_330.out _; (with_reducible repeat (first | refine blk_drewN ?_ _ | refine blk_drew ?_ | refine blk_alloc ?_ _)); refine blk_far ?_ NB322_330.out _; (with_reducible repeat (first | refine blk_drewN ?_ _ | refine blk_drew ?_ | refine blk_alloc ?_ _)); refine blk_far ?_ NB322_330.out _; (with_reducible repeat (first | refine blk_drewN ?_ _ | refine blk_drew ?_ | refine blk_alloc ?_ _)); refine blk_far ?_ NB322_330.out _; (with_reducible repeat (first | refine blk_drewN ?_ _ | refine blk_drew ?_ | refine blk_alloc ?_ _)); exact BK322.out) hb); have n3_ := Aside0.mk (blk_below (g := gb330) (o := .cells #[.string t323, .string t324, .string t325, .slice Ao20 t326.length co20] 64 (0, 0)) (by (with_reducible repeat (first | refine blk_drewN ?_ _ | refine blk_drew ?_ | refine blk_alloc ?_ _)); refine blk_put (cs := #[.string t323, .string t324, .string t325, .slice none 0 0]) ?_ 3 _ rfl; (with_reducible repeat (first | refine blk_drewN ?_ _ | refine blk_drew ?_ | refine blk_alloc ?_ _)); refine blk_put (cs := #[.string t323, .string t324, .string (⟨#[]⟩ : ByteArray), .slice none 0 0]) ?_ 2 _ rfl; (with_reducible repeat (first | refine blk_drewN ?_ _ | refine blk_drew ?_ | refine blk_alloc ?_ _)); refine blk_put (cs := #[.string t323, .string (⟨#[]⟩ : ByteArray), .string (⟨#[]⟩ : ByteArray), .slice none 0 0]) ?_ 1 _ rfl; (with_reducible repeat (first | refine blk_drewN ?_ _ | refine blk_drew ?_ | refine blk_alloc ?_ _)); refine blk_put (cs := #[.string (⟨#[]⟩ : ByteArray), .string (⟨#[]⟩ : ByteArray), .string (⟨#[]⟩ : ByteArray), .slice none 0 0]) ?_ 0 _ rfl; (with_reducible repeat (first | refine blk_drewN ?_ _ | refine blk_drew ?_ | refine blk_alloc ?_ _)); exact BK330.out) hb); have n4_ := Aside0.mk (below_step (by repeat (first | (with_reducible first | exact HB.out | apply below_alloc | apply pw_below_drewN | apply below_drew1 | refine below_set ?_ GE322.out | refine below_set ?_ GE330.out) | exact HB.out)) hb); clear HO320; clear HO328; clear BK322; clear BK330; clear HB; have HO320 := n0_; have HO328 := n1_; have BK322 := n2_; have BK330 := n3_; have HB := n4_; clear n0_ n1_ n2_ n3_ n4_; (try clear hb); (try clear hb2); (try clear hk); (try clear hi); have hcz23_0 : w22.cell? ⟨gb322, 0, none⟩ = some (.string t315) := (blk_cell BK322.out 0).trans rfl; have hcz23_1 : w22.cell? ⟨gb322, 1, none⟩ = some (.string t316) := (blk_cell BK322.out 1).trans rfl; have hcz23_2 : w22.cell? ⟨gb322, 2, none⟩ = some (.string t317) := (blk_cell BK322.out 2).trans rfl; have hcz23_3 : w22.cell? ⟨gb322, 3, none⟩ = some (.slice Ao15 t318.length co15) := (blk_cell BK322.out 3).trans rfl; have hfz23_0 := blk_frozen BK322.out 0; have hfz23_1 := blk_frozen BK322.out 1; have hfz23_2 := blk_frozen BK322.out 2; have hfz23_3 := blk_frozen BK322.out 3; have hcz24_0 : w22.cell? ⟨gb330, 0, none⟩ = some (.string t323) := (blk_cell BK330.out 0).trans rfl; have hcz24_1 : w22.cell? ⟨gb330, 1, none⟩ = some (.string t324) := (blk_cell BK330.out 1).trans rfl; have hcz24_2 : w22.cell? ⟨gb330, 2, none⟩ = some (.string t325) := (blk_cell BK330.out 2).trans rfl; have hcz24_3 : w22.cell? ⟨gb330, 3, none⟩ = some (.slice Ao20 t326.length co20) := (blk_cell BK330.out 3).trans rfl; have hfz24_0 := blk_frozen BK330.out 0; have hfz24_1 := blk_frozen BK330.out 1; have hfz24_2 := blk_frozen BK330.out 2; have hfz24_3 := blk_frozen BK330.out 3) | ((with_reducible refine gate_callee (f := 52) rfl ?_); refine goesL_ (some 38) rfl rfl Tryd.func52 (by kernel_rfl) rfl #[.string t316, .string t324] rfl (by (try simp only [List.map_toArray, List.map_cons, List.map_nil]); first | done | rfl | (simp only [List.length_drop, List.length_take]; rfl)) ?_; (with_reducible refine (graftwoodref02_Cmp.calls k t316 t324 t332 _ A7.out).mono ?_); rintro e w25 ⟨rfl, hb⟩; refine ⟨_, rfl, ?_⟩; have n0_ := Aside0.mk (Kd.R_below (by (with_reducible repeat (first | apply Kd.R_alloc | apply Kd.R_drewN | apply Kd.R_drew)); exact HO320.out) hb); have n1_ := Aside0.mk (Kd.R_below (by (with_reducible repeat (first | apply Kd.R_alloc | apply Kd.R_drewN | apply Kd.R_drew)); exact HO328.out) hb); have n2_ := Aside0.mk (blk_below (g := gb322) (o := .cells #[.string t315, .string t316, .string t317, .slice Ao15 t318.length co15] 64 (0, 0)) (by (with_reducible repeat (first | refine blk_drewN ?_ _ | refine blk_drew ?_ | refine blk_alloc ?_ _)); exact BK322.out) hb); have n3_ := Aside0.mk (blk_below (g := gb330) (o := .cells #[.string t323, .string t324, .string t325, .slice Ao20 t326.length co20] 64 (0, 0)) (by (with_reducible repeat (first | refine blk_drewN ?_ _ | refine blk_drew ?_ | refine blk_alloc ?_ _)); exact BK330.out) hb); have n4_ := Aside0.mk (below_step (by repeat (first | (with_reducible first | exact HB.out | apply below_alloc | apply pw_below_drewN | apply below_drew1 | refine below_set ?_ GE322.out | refine below_set ?_ GE330.out) | exact HB.out)) hb); clear HO320; clear HO328; clear BK322; clear BK330; clear HB; have HO320 := n0_; have HO328 := n1_; have BK322 := n2_; have BK330 := n3_; have HB := n4_; clear n0_ n1_ n2_ n3_ n4_; (try clear hb); (try clear hb2); (try clear hk); (try clear hi); have hcz26_0 : w25.cell? ⟨gb322, 0, none⟩ = some (.string t315) := (blk_cell BK322.out 0).trans rfl; have hcz26_1 : w25.cell? ⟨gb322, 1, none⟩ = some (.string t316) := (blk_cell BK322.out 1).trans rfl; have hcz26_2 : w25.cell? ⟨gb322, 2, none⟩ = some (.string t317) := (blk_cell BK322.out 2).trans rfl; have hcz26_3 : w25.cell? ⟨gb322, 3, none⟩ = some (.slice Ao15 t318.length co15) := (blk_cell BK322.out 3).trans rfl; have hfz26_0 := blk_frozen BK322.out 0; have hfz26_1 := blk_frozen BK322.out 1; have hfz26_2 := blk_frozen BK322.out 2; have hfz26_3 := blk_frozen BK322.out 3; have hcz27_0 : w25.cell? ⟨gb330, 0, none⟩ = some (.string t323) := (blk_cell BK330.out 0).trans rfl; have hcz27_1 : w25.cell? ⟨gb330, 1, none⟩ = some (.string t324) := (blk_cell BK330.out 1).trans rfl; have hcz27_2 : w25.cell? ⟨gb330, 2, none⟩ = some (.string t325) := (blk_cell BK330.out 2).trans rfl; have hcz27_3 : w25.cell? ⟨gb330, 3, none⟩ = some (.slice Ao20 t326.length co20) := (blk_cell BK330.out 3).trans rfl; have hfz27_0 := blk_frozen BK330.out 0; have hfz27_1 := blk_frozen BK330.out 1; have hfz27_2 := blk_frozen BK330.out 2; have hfz27_3 := blk_frozen BK330.out 3) | ((with_reducible refine gate_callee (f := 52) rfl ?_); refine goesL_ (some 46) rfl rfl Tryd.func52 (by kernel_rfl) rfl #[.string t317, .string t325] rfl (by (try simp only [List.map_toArray, List.map_cons, List.map_nil]); first | done | rfl | (simp only [List.length_drop, List.length_take]; rfl)) ?_; (with_reducible refine (graftwoodref02_Cmp.calls k t317 t325 t333 _ A9.out).mono ?_); rintro e w28 ⟨rfl, hb⟩; refine ⟨_, rfl, ?_⟩; have n0_ := Aside0.mk (Kd.R_below (by (with_reducible repeat (first | apply Kd.R_alloc | apply Kd.R_drewN | apply Kd.R_drew)); exact HO320.out) hb); have n1_ := Aside0.mk (Kd.R_below (by (with_reducible repeat (first | apply Kd.R_alloc | apply Kd.R_drewN | apply Kd.R_drew)); exact HO328.out) hb); have n2_ := Aside0.mk (blk_below (g := gb322) (o := .cells #[.string t315, .string t316, .string t317, .slice Ao15 t318.length co15] 64 (0, 0)) (by (with_reducible repeat (first | refine blk_drewN ?_ _ | refine blk_drew ?_ | refine blk_alloc ?_ _)); exact BK322.out) hb); have n3_ := Aside0.mk (blk_below (g := gb330) (o := .cells #[.string t323, .string t324, .string t325, .slice Ao20 t326.length co20] 64 (0, 0)) (by (with_reducible repeat (first | refine blk_drewN ?_ _ | refine blk_drew ?_ | refine blk_alloc ?_ _)); exact BK330.out) hb); have n4_ := Aside0.mk (below_step (by repeat (first | (with_reducible first | exact HB.out | apply below_alloc | apply pw_below_drewN | apply below_drew1 | refine below_set ?_ GE322.out | refine below_set ?_ GE330.out) | exact HB.out)) hb); clear HO320; clear HO328; clear BK322; clear BK330; clear HB; have HO320 := n0_; have HO328 := n1_; have BK322 := n2_; have BK330 := n3_; have HB := n4_; clear n0_ n1_ n2_ n3_ n4_; (try clear hb); (try clear hb2); (try clear hk); (try clear hi)))
    have n0_ := Aside0.mk (Kd.R_drew HO320.out)
    have n1_ := Aside0.mk (Kd.R_drew HO328.out)
    have n2_ := Aside0.mk (blk_drew BK322.out)
    have n3_ := Aside0.mk (blk_drew BK330.out)
    have n4_ := Aside0.mk (below_drew1 HB.out)
    clear HO320 HO328 BK322 BK330 HB
    have HO320 := n0_
    have HO328 := n1_
    have BK322 := n2_
    have BK330 := n3_
    have HB := n4_
    clear n0_ n1_ n2_ n3_ n4_
    refine start_ (n := 8) (S := fun w' => w'.cell? ⟨gb322, 0, none⟩ = some (.string t315) ∧ w'.cell? ⟨gb322, 1, none⟩ = some (.string t316) ∧ w'.cell? ⟨gb322, 2, none⟩ = some (.string t317) ∧ w'.cell? ⟨gb322, 3, none⟩ = some (.slice Ao15 t318.length co15) ∧ w'.cell? ⟨gb330, 0, none⟩ = some (.string t323) ∧ w'.cell? ⟨gb330, 1, none⟩ = some (.string t324) ∧ w'.cell? ⟨gb330, 2, none⟩ = some (.string t325) ∧ w'.cell? ⟨gb330, 3, none⟩ = some (.slice Ao20 t326.length co20)) (ds := []) #[false, false, false, false, false, false, false, false] (by kernel_rfl) rfl rfl ⟨(blk_cell BK322.out 0).trans rfl, (blk_cell BK322.out 1).trans rfl, (blk_cell BK322.out 2).trans rfl, (blk_cell BK322.out 3).trans rfl, (blk_cell BK330.out 0).trans rfl, (blk_cell BK330.out 1).trans rfl, (blk_cell BK330.out 2).trans rfl, (blk_cell BK330.out 3).trans rfl⟩ (fun hHeld => ?_); refine with_tabW graftwoodref03_Cmp.tab12 graftwoodref03_Cmp.bits12 (fun HT_ HW_ => ?_)
    generalize w28.drew = w29 at HO320 HO328 BK322 BK330 HB hHeld ⊢
    refine pure_ (i := 0) (N := some 50) (v := ?_) (a' := ?_) #[true, false, false, false, false, false, false, false] rfl rfl (any_of HT_.out (by kernel_rfl)) (fun _ _ _ h => h) (Or.inl ⟨by rfl, ?_⟩) ?_ ?_
    rotate_left
    ·intro w'
     go_simp
     with_reducible rfl
    rotate_left
    ·simp only [Act.put, List.setIfInBounds_toArray, List.set_cons_zero, List.set_cons_succ, i64_w, i32_w]
     rfl
    refine pure_ (i := 3) (N := some 53) (v := ?_) (a' := ?_) #[true, false, false, true, false, false, false, false] rfl rfl (any_of HT_.out (by kernel_rfl)) (fun _ _ _ h => h) (Or.inl ⟨by rfl, ?_⟩) ?_ ?_
    rotate_left
    ·intro w'
     go_simp
     with_reducible rfl
    rotate_left
    ·simp only [Act.put, List.setIfInBounds_toArray, List.set_cons_zero, List.set_cons_succ, i64_w, i32_w]
     rfl
    refine take_ (i := 1) (N := some 51) (v := ?_) (a' := ?_) #[true, true, false, true, false, false, false, false] rfl rfl (take_ofW HT_.out HW_.out (by kernel_rfl)) (fun _ _ _ h => h) (Or.inl ⟨by rfl, ?_⟩) hHeld ?_ ?_
    rotate_left
    ·rintro w' ⟨s0, s1, s2, s3, s4, s5, s6, s7⟩
     go_simp
     with_reducible rfl
    rotate_left
    ·simp only [Act.put, List.setIfInBounds_toArray, List.set_cons_zero, List.set_cons_succ, i64_w, i32_w]
     rfl
    refine pure_ (i := 2) (N := some 52) (v := ?_) (a' := ?_) #[true, true, true, true, false, false, false, false] rfl rfl (any_of HT_.out (by kernel_rfl)) (fun _ _ _ h => h) (Or.inl ⟨by rfl, ?_⟩) ?_ ?_
    rotate_left
    ·intro w'
     go_simp
     with_reducible rfl
    rotate_left
    ·simp only [Act.put, List.setIfInBounds_toArray, List.set_cons_zero, List.set_cons_succ, i64_w, i32_w]
     rfl
    refine pure_ (i := 6) (N := some 12) (v := ?_) (a' := ?_) #[true, true, true, true, false, false, true, false] rfl rfl (any_of HT_.out (by kernel_rfl)) (fun _ _ _ h => h) (Or.inl ⟨by rfl, ?_⟩) ?_ ?_
    rotate_left
    ·intro w'
     go_simp
     with_reducible rfl
    rotate_left
    ·simp only [Act.put, List.setIfInBounds_toArray, List.set_cons_zero, List.set_cons_succ, i64_w, i32_w]
     rfl
    refine take_ (i := 4) (N := some 54) (v := ?_) (a' := ?_) #[true, true, true, true, true, false, true, false] rfl rfl (take_ofW HT_.out HW_.out (by kernel_rfl)) (fun _ _ _ h => h) (Or.inl ⟨by rfl, ?_⟩) hHeld ?_ ?_
    rotate_left
    ·rintro w' ⟨s0, s1, s2, s3, s4, s5, s6, s7⟩
     go_simp
     with_reducible rfl
    rotate_left
    ·simp only [Act.put, List.setIfInBounds_toArray, List.set_cons_zero, List.set_cons_succ, i64_w, i32_w]
     rfl
    refine pure_ (i := 5) (N := some 55) (v := ?_) (a' := ?_) #[true, true, true, true, true, true, true, false] rfl rfl (any_of HT_.out (by kernel_rfl)) (fun _ _ _ h => h) (Or.inl ⟨by rfl, ?_⟩) ?_ ?_
    rotate_left
    ·intro w'
     go_simp
     with_reducible rfl
    rotate_left
    ·simp only [Act.put, List.setIfInBounds_toArray, List.set_cons_zero, List.set_cons_succ, i64_w, i32_w]
     rfl
    refine pure_ (i := 7) (N := some 13) (v := ?_) (a' := ?_) #[true, true, true, true, true, true, true, true] rfl rfl (any_of HT_.out (by kernel_rfl)) (fun _ _ _ h => h) (Or.inl ⟨by rfl, ?_⟩) ?_ ?_
    rotate_left
    ·intro w'
     go_simp
     with_reducible rfl
    rotate_left
    ·simp only [Act.put, List.setIfInBounds_toArray, List.set_cons_zero, List.set_cons_succ, i64_w, i32_w]
     rfl
    refine done_ (done_of HT_.out (by kernel_rfl)) ?_
    go_upto_region 13 with (fail)
    go_cut [61] (fun v61 wc => ∃ (kq : Nat) (x61_10 : Bool), v61 = .bool x61_10 ∧ Aside0 (graftwoodref03_Cmp.j0 kq (t318.length : Int) (t326.length : Int) x61_10 t315 t316 t317 t318 t323 t324 t325 t326 = some r) ∧ Aside0 (kq ≤ k) ∧ Aside0 (Kd.R Kd.string 9 wc w.heap.size (fun k_ => some k_ ≠ ((.slice Ao20 t326.length co20) : Value).ownBlock) (.slice Ao15 t318.length co15) t318) ∧ Aside0 (Kd.R Kd.string 9 wc w.heap.size (fun k_ => some k_ ≠ ((.slice Ao15 t318.length co15) : Value).ownBlock) (.slice Ao20 t326.length co20) t326) ∧ Aside0 (wc.heap[gb322]? = some (.cells #[.string t315, .string t316, .string t317, (.slice Ao15 t318.length co15)] 64 (0, 0))) ∧ Aside0 (wc.heap[gb330]? = some (.cells #[.string t323, .string t324, .string t325, (.slice Ao20 t326.length co20)] 64 (0, 0))) ∧ Aside0 (Below w.heap.size w wc))
    case first =>
     have H := HC11.out
     clear HC11
     by_cases c30 : (t318.length : Int) = 0
     ·rw [if_pos c30] at H
      have c30b0 : ((t318.length : Int) == 0) = true := beq_iff_eq.mpr c30
      have c30b1 : ((t318.length : Int) != 0) = false := bne_eq_false_iff_eq.mpr c30
      clear c30
      (first | rw [c30b0] | (simp only [i64_w, i32_w]; rw [c30b0]) | skip)
      have H' := Aside0.mk H
      clear H
      go_wp2
      go_meet
      case rel => exact ⟨_, (((t326.length : Int) == 0)), (by first | rfl | (simp; done) | (simp [*]; done)), H', ⟨by first | omega | exact Nat.le_refl _⟩, ⟨by (with_reducible repeat (first | apply Kd.R_alloc | apply Kd.R_drewN | apply Kd.R_drew)); exact Kd.R_mono HO320.out (fun _ hk => hk.2)⟩, ⟨by (with_reducible repeat (first | apply Kd.R_alloc | apply Kd.R_drewN | apply Kd.R_drew)); exact Kd.R_mono HO328.out (fun _ hk => hk.2)⟩, ⟨by (with_reducible repeat (first | refine blk_drewN ?_ _ | refine blk_drew ?_ | refine blk_alloc ?_ _)); exact BK322.out⟩, ⟨by (with_reducible repeat (first | refine blk_drewN ?_ _ | refine blk_drew ?_ | refine blk_alloc ?_ _)); exact BK330.out⟩, ⟨by repeat (first | (with_reducible first | exact HB.out | apply below_alloc | apply pw_below_drewN | apply below_drew1 | refine below_set ?_ GE322.out | refine below_set ?_ GE330.out) | exact HB.out)⟩⟩
     ·rw [if_neg c30] at H
      have c30b0 : ((t318.length : Int) == 0) = false := beq_eq_false_iff_ne.mpr c30
      have c30b1 : ((t318.length : Int) != 0) = true := bne_iff_ne.mpr c30
      have c30b2 : ¬ (t318 = []) := fun h_ => c30 (by rw [h_]; rfl)
      (first | rw [c30b0] | (simp only [i64_w, i32_w]; rw [c30b0]) | skip)
      have H' := Aside0.mk H
      clear H
      go_wp2
      go_meet
      case rel => exact ⟨_, (false), (by first | rfl | (simp; done) | (simp [*]; done)), H', ⟨by first | omega | exact Nat.le_refl _⟩, ⟨by (with_reducible repeat (first | apply Kd.R_alloc | apply Kd.R_drewN | apply Kd.R_drew)); exact Kd.R_mono HO320.out (fun _ hk => hk.2)⟩, ⟨by (with_reducible repeat (first | apply Kd.R_alloc | apply Kd.R_drewN | apply Kd.R_drew)); exact Kd.R_mono HO328.out (fun _ hk => hk.2)⟩, ⟨by (with_reducible repeat (first | refine blk_drewN ?_ _ | refine blk_drew ?_ | refine blk_alloc ?_ _)); exact BK322.out⟩, ⟨by (with_reducible repeat (first | refine blk_drewN ?_ _ | refine blk_drew ?_ | refine blk_alloc ?_ _)); exact BK330.out⟩, ⟨by repeat (first | (with_reducible first | exact HB.out | apply below_alloc | apply pw_below_drewN | apply below_drew1 | refine below_set ?_ GE322.out | refine below_set ?_ GE330.out) | exact HB.out)⟩⟩
    case rest =>
     clear HC11
     try clear c1
     try clear p2
     try clear c3
     try clear c4
     try clear c5
     try clear c6
     try clear c6b0
     try clear c6b1
     try clear c8
     try clear c8b0
     try clear c8b1
     try clear c10
     try clear c10b0
     try clear c10b1
     try clear c18
     try clear c30
     try clear c30b0
     try clear c30b1
     try clear c30b2
     try clear hcz14_0
     try clear hcz14_1
     try clear hcz14_2
     try clear hcz14_3
     try clear hcz19_0
     try clear hcz19_1
     try clear hcz19_2
     try clear hcz19_3
     try clear hcz21_0
     try clear hcz21_1
     try clear hcz21_2
     try clear hcz21_3
     try clear hcz23_0
     try clear hcz23_1
     try clear hcz23_2
     try clear hcz23_3
     try clear hcz24_0
     try clear hcz24_1
     try clear hcz24_2
     try clear hcz24_3
     try clear hcz26_0
     try clear hcz26_1
     try clear hcz26_2
     try clear hcz26_3
     try clear hcz27_0
     try clear hcz27_1
     try clear hcz27_2
     try clear hcz27_3
     try clear hfz14_0
     try clear hfz14_1
     try clear hfz14_2
     try clear hfz14_3
     try clear hfz19_0
     try clear hfz19_1
     try clear hfz19_2
     try clear hfz19_3
     try clear hfz21_0
     try clear hfz21_1
     try clear hfz21_2
     try clear hfz21_3
     try clear hfz23_0
     try clear hfz23_1
     try clear hfz23_2
     try clear hfz23_3
     try clear hfz24_0
     try clear hfz24_1
     try clear hfz24_2
     try clear hfz24_3
     try clear hfz26_0
     try clear hfz26_1
     try clear hfz26_2
     try clear hfz26_3
     try clear hfz27_0
     try clear hfz27_1
     try clear hfz27_2
     try clear hfz27_3
     obtain ⟨kq, x61_10, rfl, HA, HJ10, HO_323003, HO_331003, BK322, BK330, HB⟩ := hcut
     cases kq with
     | zero => exact absurd HA.out (by simp [graftwoodref03_Cmp.j0])
     | succ kj10 =>
      have H := HA.out
      clear HA
      simp only [graftwoodref03_Cmp.j0] at H
      by_cases c31 : x61_10 = true
      ·subst c31
       have H1 : (some 0) = some r := by rw [if_pos rfl] at H; exact H
       clear H
       have H := H1
       clear H1
       obtain rfl := Option.some.inj H
       go_wp2
       go_ret
       exact ⟨by first | rfl | (simp [errW_none, errW_some] <;> rfl) | (simp [*, errW_none, errW_some] <;> rfl), by repeat (first | (with_reducible first | exact HB.out | apply below_alloc | apply pw_below_drewN | apply below_drew1 | refine below_set ?_ GE322.out | refine below_set ?_ GE330.out) | exact HB.out)⟩
      ·replace c31 := Bool.eq_false_iff.mpr c31
       subst c31
       have H1 : (if (t318.length : Int) = 0 then (some 1) else (if (t326.length : Int) = 0 then (some (-1)) else (graftwoodref03_Cmp.l0 kj10 (t318.length : Int) (t326.length : Int) 0 t315 t316 t317 t318 t323 t324 t325 t326))) = some r := by rw [if_neg (show ¬ (false = true) by decide)] at H; exact H
       clear H
       have H := H1
       clear H1
       by_cases c32 : (t318.length : Int) = 0
       ·rw [if_pos c32] at H
        have c32b0 : ((t318.length : Int) == 0) = true := beq_iff_eq.mpr c32
        have c32b1 : ((t318.length : Int) != 0) = false := bne_eq_false_iff_eq.mpr c32
        clear c32
        obtain rfl := Option.some.inj H
        go_wp2
        go_ret
        exact ⟨by first | rfl | (simp [errW_none, errW_some] <;> rfl) | (simp [*, errW_none, errW_some] <;> rfl), by repeat (first | (with_reducible first | exact HB.out | apply below_alloc | apply pw_below_drewN | apply below_drew1 | refine below_set ?_ GE322.out | refine below_set ?_ GE330.out) | exact HB.out)⟩
       ·rw [if_neg c32] at H
        have c32b0 : ((t318.length : Int) == 0) = false := beq_eq_false_iff_ne.mpr c32
        have c32b1 : ((t318.length : Int) != 0) = true := bne_iff_ne.mpr c32
        have c32b2 : ¬ (t318 = []) := fun h_ => c32 (by rw [h_]; rfl)
        by_cases c33 : (t326.length : Int) = 0
        ·rw [if_pos c33] at H
         have c33b0 : ((t326.length : Int) == 0) = true := beq_iff_eq.mpr c33
         have c33b1 : ((t326.length : Int) != 0) = false := bne_eq_false_iff_eq.mpr c33
         clear c33
         obtain rfl := Option.some.inj H
         go_wp2
         go_ret
         exact ⟨by first | rfl | (simp [errW_none, errW_some] <;> rfl) | (simp [*, errW_none, errW_some] <;> rfl), by repeat (first | (with_reducible first | exact HB.out | apply below_alloc | apply pw_below_drewN | apply below_drew1 | refine below_set ?_ GE322.out | refine below_set ?_ GE330.out) | exact HB.out)⟩
        ·rw [if_neg c33] at H
         have c33b0 : ((t326.length : Int) == 0) = false := beq_eq_false_iff_ne.mpr c33
         have c33b1 : ((t326.length : Int) != 0) = true := bne_iff_ne.mpr c33
         have c33b2 : ¬ (t326 = []) := fun h_ => c33 (by rw [h_]; rfl)
         have H' := Aside0.mk H
         clear H
         go_wp2
         go_loopg [14] kj10 (fun kq v14 w' => ∃ (x14_2 : Int), v14 = .int .i64 x14_2 ∧ Aside0 (graftwoodref03_Cmp.l0 kq (t318.length : Int) (t326.length : Int) x14_2 t315 t316 t317 t318 t323 t324 t325 t326 = some r) ∧ Aside0 (kq ≤ kj10) ∧ Aside0 (Kd.R Kd.string 9 w' w.heap.size (fun k_ => some k_ ≠ ((.slice Ao20 t326.length co20) : Value).ownBlock) (.slice Ao15 t318.length co15) t318) ∧ Aside0 (Kd.R Kd.string 9 w' w.heap.size (fun k_ => some k_ ≠ ((.slice Ao15 t318.length co15) : Value).ownBlock) (.slice Ao20 t326.length co20) t326) ∧ Aside0 (w'.heap[gb322]? = some (.cells #[.string t315, .string t316, .string t317, (.slice Ao15 t318.length co15)] 64 (0, 0))) ∧ Aside0 (w'.heap[gb330]? = some (.cells #[.string t323, .string t324, .string t325, (.slice Ao20 t326.length co20)] 64 (0, 0))) ∧ Aside0 (Below w.heap.size w w'))
         case atStart => exact ⟨(0), (by first | rfl | (simp; done) | (simp [*]; done)), H', ⟨Nat.le_refl _⟩, ⟨by (with_reducible repeat (first | apply Kd.R_alloc | apply Kd.R_drewN | apply Kd.R_drew)); exact HO_323003.out⟩, ⟨by (with_reducible repeat (first | apply Kd.R_alloc | apply Kd.R_drewN | apply Kd.R_drew)); exact HO_331003.out⟩, ⟨by (with_reducible repeat (first | refine blk_drewN ?_ _ | refine blk_drew ?_ | refine blk_alloc ?_ _)); exact BK322.out⟩, ⟨by (with_reducible repeat (first | refine blk_drewN ?_ _ | refine blk_drew ?_ | refine blk_alloc ?_ _)); exact BK330.out⟩, ⟨by repeat (first | (with_reducible first | exact HB.out | apply below_alloc | apply pw_below_drewN | apply below_drew1 | refine below_set ?_ GE322.out | refine below_set ?_ GE330.out) | exact HB.out)⟩⟩
         case round =>
          clear H'
          try clear c1
          try clear p2
          try clear c3
          try clear c4
          try clear c5
          try clear c6
          try clear c6b0
          try clear c6b1
          try clear c8
          try clear c8b0
          try clear c8b1
          try clear c10
          try clear c10b0
          try clear c10b1
          try clear c18
          try clear c30
          try clear c30b0
          try clear c30b1
          try clear c30b2
          try clear c31
          try clear c32
          try clear c32b0
          try clear c32b1
          try clear c32b2
          try clear c33
          try clear c33b0
          try clear c33b1
          try clear c33b2
          try clear hcz14_0
          try clear hcz14_1
          try clear hcz14_2
          try clear hcz14_3
          try clear hcz19_0
          try clear hcz19_1
          try clear hcz19_2
          try clear hcz19_3
          try clear hcz21_0
          try clear hcz21_1
          try clear hcz21_2
          try clear hcz21_3
          try clear hcz23_0
          try clear hcz23_1
          try clear hcz23_2
          try clear hcz23_3
          try clear hcz24_0
          try clear hcz24_1
          try clear hcz24_2
          try clear hcz24_3
          try clear hcz26_0
          try clear hcz26_1
          try clear hcz26_2
          try clear hcz26_3
          try clear hcz27_0
          try clear hcz27_1
          try clear hcz27_2
          try clear hcz27_3
          try clear hfz14_0
          try clear hfz14_1
          try clear hfz14_2
          try clear hfz14_3
          try clear hfz19_0
          try clear hfz19_1
          try clear hfz19_2
          try clear hfz19_3
          try clear hfz21_0
          try clear hfz21_1
          try clear hfz21_2
          try clear hfz21_3
          try clear hfz23_0
          try clear hfz23_1
          try clear hfz23_2
          try clear hfz23_3
          try clear hfz24_0
          try clear hfz24_1
          try clear hfz24_2
          try clear hfz24_3
          try clear hfz26_0
          try clear hfz26_1
          try clear hfz26_2
          try clear hfz26_3
          try clear hfz27_0
          try clear hfz27_1
          try clear hfz27_2
          try clear hfz27_3
          try clear p2
          obtain ⟨x14_2, rfl, HA, HK2, HO_323003, HO_331003, BK322, BK330, HB⟩ := hrel
          cases gk with
          | zero => exact absurd HA.out (by simp [graftwoodref03_Cmp.l0])
          | succ k2 =>
           have H := HA.out
           clear HA
           simp only [graftwoodref03_Cmp.l0] at H
           have HC34 := Aside0.mk H
           clear H
           go_upto_region 20 with (fail)
           go_cut [73] (fun v73 wc => ∃ (kq : Nat) (x73_33 : Bool), v73 = .bool x73_33 ∧ Aside0 (graftwoodref03_Cmp.j2 kq (t318.length : Int) (t326.length : Int) x14_2 x73_33 t315 t316 t317 t318 t323 t324 t325 t326 = some r) ∧ Aside0 (kq ≤ k2) ∧ Aside0 (Kd.R Kd.string 9 wc w.heap.size (fun k_ => some k_ ≠ ((.slice Ao20 t326.length co20) : Value).ownBlock) (.slice Ao15 t318.length co15) t318) ∧ Aside0 (Kd.R Kd.string 9 wc w.heap.size (fun k_ => some k_ ≠ ((.slice Ao15 t318.length co15) : Value).ownBlock) (.slice Ao20 t326.length co20) t326) ∧ Aside0 (wc.heap[gb322]? = some (.cells #[.string t315, .string t316, .string t317, (.slice Ao15 t318.length co15)] 64 (0, 0))) ∧ Aside0 (wc.heap[gb330]? = some (.cells #[.string t323, .string t324, .string t325, (.slice Ao20 t326.length co20)] 64 (0, 0))) ∧ Aside0 (Below w.heap.size w wc))
           case first =>
            have H := HC34.out
            clear HC34
            by_cases c35 : x14_2 < (t318.length : Int)
            ·rw [if_pos c35] at H
             have c35b0 : decide (x14_2 < (t318.length : Int)) = true := decide_eq_true c35
             clear c35
             (first | rw [c35b0] | (simp only [i64_w, i32_w]; rw [c35b0]) | skip)
             have H' := Aside0.mk H
             clear H
             go_wp2
             go_meet
             case rel => exact ⟨_, (decide (x14_2 < (t326.length : Int))), (by first | rfl | (simp; done) | (simp [*]; done)), H', ⟨by have := HJ10.out; have := HK2.out; first | omega | exact Nat.le_refl _⟩, ⟨by (with_reducible repeat (first | apply Kd.R_alloc | apply Kd.R_drewN | apply Kd.R_drew)); exact HO_323003.out⟩, ⟨by (with_reducible repeat (first | apply Kd.R_alloc | apply Kd.R_drewN | apply Kd.R_drew)); exact HO_331003.out⟩, ⟨by (with_reducible repeat (first | refine blk_drewN ?_ _ | refine blk_drew ?_ | refine blk_alloc ?_ _)); exact BK322.out⟩, ⟨by (with_reducible repeat (first | refine blk_drewN ?_ _ | refine blk_drew ?_ | refine blk_alloc ?_ _)); exact BK330.out⟩, ⟨by repeat (first | (with_reducible first | exact HB.out | apply below_alloc | apply pw_below_drewN | apply below_drew1 | refine below_set ?_ GE322.out | refine below_set ?_ GE330.out) | exact HB.out)⟩⟩
            ·rw [if_neg c35] at H
             have c35b0 : decide (x14_2 < (t318.length : Int)) = false := decide_eq_false c35
             clear c35
             (first | rw [c35b0] | (simp only [i64_w, i32_w]; rw [c35b0]) | skip)
             have H' := Aside0.mk H
             clear H
             go_wp2
             go_meet
             case rel => exact ⟨_, (false), (by first | rfl | (simp; done) | (simp [*]; done)), H', ⟨by have := HJ10.out; have := HK2.out; first | omega | exact Nat.le_refl _⟩, ⟨by (with_reducible repeat (first | apply Kd.R_alloc | apply Kd.R_drewN | apply Kd.R_drew)); exact HO_323003.out⟩, ⟨by (with_reducible repeat (first | apply Kd.R_alloc | apply Kd.R_drewN | apply Kd.R_drew)); exact HO_331003.out⟩, ⟨by (with_reducible repeat (first | refine blk_drewN ?_ _ | refine blk_drew ?_ | refine blk_alloc ?_ _)); exact BK322.out⟩, ⟨by (with_reducible repeat (first | refine blk_drewN ?_ _ | refine blk_drew ?_ | refine blk_alloc ?_ _)); exact BK330.out⟩, ⟨by repeat (first | (with_reducible first | exact HB.out | apply below_alloc | apply pw_below_drewN | apply below_drew1 | refine below_set ?_ GE322.out | refine below_set ?_ GE330.out) | exact HB.out)⟩⟩
           case rest =>
            clear HC34
            try clear c1
            try clear p2
            try clear c3
            try clear c4
            try clear c5
            try clear c6
            try clear c6b0
            try clear c6b1
            try clear c8
            try clear c8b0
            try clear c8b1
            try clear c10
            try clear c10b0
            try clear c10b1
            try clear c18
            try clear c30
            try clear c30b0
            try clear c30b1
            try clear c30b2
            try clear c31
            try clear c32
            try clear c32b0
            try clear c32b1
            try clear c32b2
            try clear c33
            try clear c33b0
            try clear c33b1
            try clear c33b2
            try clear c35
            try clear c35b0
            try clear hcz14_0
            try clear hcz14_1
            try clear hcz14_2
            try clear hcz14_3
            try clear hcz19_0
            try clear hcz19_1
            try clear hcz19_2
            try clear hcz19_3
            try clear hcz21_0
            try clear hcz21_1
            try clear hcz21_2
            try clear hcz21_3
            try clear hcz23_0
            try clear hcz23_1
            try clear hcz23_2
            try clear hcz23_3
            try clear hcz24_0
            try clear hcz24_1
            try clear hcz24_2
            try clear hcz24_3
            try clear hcz26_0
            try clear hcz26_1
            try clear hcz26_2
            try clear hcz26_3
            try clear hcz27_0
            try clear hcz27_1
            try clear hcz27_2
            try clear hcz27_3
            try clear hfz14_0
            try clear hfz14_1
            try clear hfz14_2
            try clear hfz14_3
            try clear hfz19_0
            try clear hfz19_1
            try clear hfz19_2
            try clear hfz19_3
            try clear hfz21_0
            try clear hfz21_1
            try clear hfz21_2
            try clear hfz21_3
            try clear hfz23_0
            try clear hfz23_1
            try clear hfz23_2
            try clear hfz23_3
            try clear hfz24_0
            try clear hfz24_1
            try clear hfz24_2
            try clear hfz24_3
            try clear hfz26_0
            try clear hfz26_1
            try clear hfz26_2
            try clear hfz26_3
            try clear hfz27_0
            try clear hfz27_1
            try clear hfz27_2
            try clear hfz27_3
            try clear p2
            obtain ⟨kq, x73_33, rfl, HA, HJ33, HO_323003, HO_331003, BK322, BK330, HB⟩ := hcut
            cases kq with
            | zero => exact absurd HA.out (by simp [graftwoodref03_Cmp.j2])
            | succ kj33 =>
             have H := HA.out
             clear HA
             simp only [graftwoodref03_Cmp.j2] at H
             by_cases c36 : x73_33 = true
             ·subst c36
              have H1 : (if 0 ≤ x14_2 then (if x14_2 < (t318.length : Int) then (if x14_2 < (t326.length : Int) then ((graftwoodref03_words.f kj33 (rdOf ByteArray.empty t318 x14_2) (rdOf ByteArray.empty t326 x14_2)).bind fun t336 => (if t336 = 0 then (graftwoodref03_Cmp.l0 kj33 (t318.length : Int) (t326.length : Int) (wrap64 (x14_2 + 1)) t315 t316 t317 t318 t323 t324 t325 t326) else (some t336))) else (none)) else (none)) else (none)) = some r := by rw [if_pos rfl] at H; exact H
              clear H
              have H := H1
              clear H1
              by_cases c37 : 0 ≤ x14_2
              ·rw [if_pos c37] at H
               have c37b0 : decide (0 ≤ x14_2) = true := decide_eq_true c37
               clear c37
               by_cases c38 : x14_2 < (t318.length : Int)
               ·rw [if_pos c38] at H
                have c38b0 : decide (x14_2 < (t318.length : Int)) = true := decide_eq_true c38
                clear c38
                by_cases c39 : x14_2 < (t326.length : Int)
                ·rw [if_pos c39] at H
                 have c39b0 : decide (x14_2 < (t326.length : Int)) = true := decide_eq_true c39
                 clear c39
                 replace H := Option.bind_eq_some_iff.mp H
                 obtain ⟨t336, A400, H⟩ := H
                 replace H : (if t336 = 0 then (graftwoodref03_Cmp.l0 kj33 (t318.length : Int) (t326.length : Int) (wrap64 (x14_2 + 1)) t315 t316 t317 t318 t323 t324 t325 t326) else (some t336)) = some r := H
                 have A40 := Aside0.mk A400
                 clear A400
                 by_cases c41 : t336 = 0
                 ·rw [if_pos c41] at H
                  have c41b0 : (t336 == 0) = true := beq_iff_eq.mpr c41
                  have c41b1 : (t336 != 0) = false := bne_eq_false_iff_eq.mpr c41
                  clear c41
                  have H' := Aside0.mk H
                  clear H
                  try go_wp2
                  have n0_ := Aside0.mk (Kd.R_drew HO_323003.out)
                  have n1_ := Aside0.mk (Kd.R_drew HO_331003.out)
                  have n2_ := Aside0.mk (blk_drew BK322.out)
                  have n3_ := Aside0.mk (blk_drew BK330.out)
                  have n4_ := Aside0.mk (below_drew1 HB.out)
                  clear HO_323003 HO_331003 BK322 BK330 HB
                  have HO_323003 := n0_
                  have HO_331003 := n1_
                  have BK322 := n2_
                  have BK330 := n3_
                  have HB := n4_
                  clear n0_ n1_ n2_ n3_ n4_
                  have p334 : 0 ≤ (x14_2 : Int) := of_decide_eq_true (by first | (with_reducible assumption) | assumption)
                  have q334 : x14_2 < (t318.length : Int) := of_decide_eq_true (by first | (with_reducible assumption) | assumption)
                  obtain ⟨ad334, e334, hx334_0⟩ := Kd.at_string (Kd.R_reads' HO_323003.out).2.2 x14_2 p334 q334
                  cases e334
                  replace p334 := eq_true p334
                  replace q334 := eq_true q334
                  have p335 : 0 ≤ (x14_2 : Int) := of_decide_eq_true (by first | (with_reducible assumption) | assumption)
                  have q335 : x14_2 < (t326.length : Int) := of_decide_eq_true (by first | (with_reducible assumption) | assumption)
                  obtain ⟨ad335, e335, hx335_0⟩ := Kd.at_string (Kd.R_reads' HO_331003.out).2.2 x14_2 p335 q335
                  cases e335
                  replace p335 := eq_true p335
                  replace q335 := eq_true q335
                  refine start_ (n := 12) (S := fun w' => w'.cell? ⟨gb322, 0, none⟩ = some (.string t315) ∧ w'.cell? ⟨gb322, 1, none⟩ = some (.string t316) ∧ w'.cell? ⟨gb322, 2, none⟩ = some (.string t317) ∧ w'.cell? ⟨gb322, 3, none⟩ = some (.slice (some ad334) t318.length co15) ∧ w'.cell? ⟨gb330, 0, none⟩ = some (.string t323) ∧ w'.cell? ⟨gb330, 1, none⟩ = some (.string t324) ∧ w'.cell? ⟨gb330, 2, none⟩ = some (.string t325) ∧ w'.cell? ⟨gb330, 3, none⟩ = some (.slice (some ad335) t326.length co20) ∧ w'.cell? (ad334.add (x14_2).toNat) = some (.string (rdOf ByteArray.empty t318 x14_2)) ∧ w'.cell? (ad335.add (x14_2).toNat) = some (.string (rdOf ByteArray.empty t326 x14_2))) (ds := []) #[false, false, false, false, false, false, false, false, false, false, false, false] (by kernel_rfl) rfl rfl ⟨(blk_cell BK322.out 0).trans rfl, (blk_cell BK322.out 1).trans rfl, (blk_cell BK322.out 2).trans rfl, (blk_cell BK322.out 3).trans rfl, (blk_cell BK330.out 0).trans rfl, (blk_cell BK330.out 1).trans rfl, (blk_cell BK330.out 2).trans rfl, (blk_cell BK330.out 3).trans rfl, hx334_0, hx335_0⟩ (fun hHeld => ?_); refine with_tabW graftwoodref03_Cmp.tab22 graftwoodref03_Cmp.bits22 (fun HT_ HW_ => ?_)
                  generalize wc.drew = w42 at HO_323003 HO_331003 BK322 BK330 HB hx334_0 hx335_0 hHeld ⊢
                  refine pure_ (i := 0) (N := some 76) (v := ?_) (a' := ?_) #[true, false, false, false, false, false, false, false, false, false, false, false] rfl rfl (any_of HT_.out (by kernel_rfl)) (fun _ _ _ h => h) (Or.inl ⟨by rfl, ?_⟩) ?_ ?_
                  rotate_left
                  ·intro w'
                   go_simp
                   with_reducible rfl
                  rotate_left
                  ·simp only [Act.put, List.setIfInBounds_toArray, List.set_cons_zero, List.set_cons_succ, i64_w, i32_w]
                   rfl
                  refine pure_ (i := 2) (N := some 78) (v := ?_) (a' := ?_) #[true, false, true, false, false, false, false, false, false, false, false, false] rfl rfl (any_of HT_.out (by kernel_rfl)) (fun _ _ _ h => h) (Or.inl ⟨by rfl, ?_⟩) ?_ ?_
                  rotate_left
                  ·intro w'
                   go_simp
                   with_reducible rfl
                  rotate_left
                  ·simp only [Act.put, List.setIfInBounds_toArray, List.set_cons_zero, List.set_cons_succ, i64_w, i32_w]
                   rfl
                  refine pure_ (i := 5) (N := some 81) (v := ?_) (a' := ?_) #[true, false, true, false, false, true, false, false, false, false, false, false] rfl rfl (any_of HT_.out (by kernel_rfl)) (fun _ _ _ h => h) (Or.inl ⟨by rfl, ?_⟩) ?_ ?_
                  rotate_left
                  ·intro w'
                   go_simp
                   with_reducible rfl
                  rotate_left
                  ·simp only [Act.put, List.setIfInBounds_toArray, List.set_cons_zero, List.set_cons_succ, i64_w, i32_w]
                   rfl
                  refine pure_ (i := 7) (N := some 83) (v := ?_) (a' := ?_) #[true, false, true, false, false, true, false, true, false, false, false, false] rfl rfl (any_of HT_.out (by kernel_rfl)) (fun _ _ _ h => h) (Or.inl ⟨by rfl, ?_⟩) ?_ ?_
                  rotate_left
                  ·intro w'
                   go_simp
                   with_reducible rfl
                  rotate_left
                  ·simp only [Act.put, List.setIfInBounds_toArray, List.set_cons_zero, List.set_cons_succ, i64_w, i32_w]
                   rfl
                  refine take_ (i := 1) (N := some 77) (v := ?_) (a' := ?_) #[true, true, true, false, false, true, false, true, false, false, false, false] rfl rfl (take_ofW HT_.out HW_.out (by kernel_rfl)) (fun _ _ _ h => h) (Or.inl ⟨by rfl, ?_⟩) hHeld ?_ ?_
                  rotate_left
                  ·rintro w' ⟨s0, s1, s2, s3, s4, s5, s6, s7, s8, s9⟩
                   go_simp
                   with_reducible rfl
                  rotate_left
                  ·simp only [Act.put, List.setIfInBounds_toArray, List.set_cons_zero, List.set_cons_succ, i64_w, i32_w]
                   rfl
                  refine pure_ (i := 3) (N := some 79) (v := ?_) (a' := ?_) #[true, true, true, true, false, true, false, true, false, false, false, false] rfl rfl (any_of HT_.out (by kernel_rfl)) (fun _ _ _ h => h) (Or.inl ⟨by rfl, ?_⟩) ?_ ?_
                  rotate_left
                  ·intro w'
                   go_simp
                   with_reducible rfl
                  rotate_left
                  ·simp only [Act.put, List.setIfInBounds_toArray, List.set_cons_zero, List.set_cons_succ, i64_w, i32_w]
                   rfl
                  refine take_ (i := 4) (N := some 80) (v := ?_) (a' := ?_) #[true, true, true, true, true, true, false, true, false, false, false, false] rfl rfl (take_ofW HT_.out HW_.out (by kernel_rfl)) (fun _ _ _ h => h) (Or.inl ⟨by rfl, ?_⟩) hHeld ?_ ?_
                  rotate_left
                  ·rintro w' ⟨s0, s1, s2, s3, s4, s5, s6, s7, s8, s9⟩
                   go_simp
                   with_reducible rfl
                  rotate_left
                  ·simp only [Act.put, List.setIfInBounds_toArray, List.set_cons_zero, List.set_cons_succ, i64_w, i32_w]
                   rfl
                  refine take_ (i := 6) (N := some 82) (v := ?_) (a' := ?_) #[true, true, true, true, true, true, true, true, false, false, false, false] rfl rfl (take_ofW HT_.out HW_.out (by kernel_rfl)) (fun _ _ _ h => h) (Or.inl ⟨by rfl, ?_⟩) hHeld ?_ ?_
                  rotate_left
                  ·rintro w' ⟨s0, s1, s2, s3, s4, s5, s6, s7, s8, s9⟩
                   go_simp
                   with_reducible rfl
                  rotate_left
                  ·simp only [Act.put, List.setIfInBounds_toArray, List.set_cons_zero, List.set_cons_succ, i64_w, i32_w]
                   rfl
                  refine pure_ (i := 8) (N := some 84) (v := ?_) (a' := ?_) #[true, true, true, true, true, true, true, true, true, false, false, false] rfl rfl (any_of HT_.out (by kernel_rfl)) (fun _ _ _ h => h) (Or.inl ⟨by rfl, ?_⟩) ?_ ?_
                  rotate_left
                  ·intro w'
                   go_simp
                   with_reducible rfl
                  rotate_left
                  ·simp only [Act.put, List.setIfInBounds_toArray, List.set_cons_zero, List.set_cons_succ, i64_w, i32_w]
                   rfl
                  refine take_ (i := 9) (N := some 85) (v := ?_) (a' := ?_) #[true, true, true, true, true, true, true, true, true, true, false, false] rfl rfl (take_ofW HT_.out HW_.out (by kernel_rfl)) (fun _ _ _ h => h) (Or.inl ⟨by rfl, ?_⟩) hHeld ?_ ?_
                  rotate_left
                  ·rintro w' ⟨s0, s1, s2, s3, s4, s5, s6, s7, s8, s9⟩
                   go_simp
                   with_reducible rfl
                  rotate_left
                  ·simp only [Act.put, List.setIfInBounds_toArray, List.set_cons_zero, List.set_cons_succ, i64_w, i32_w]
                   rfl
                  refine one_ (i := 10) (N := some 86) #[true, true, true, true, true, true, true, true, true, true, true, false] rfl rfl (one_of HT_.out (by kernel_rfl)) (by decide) (fun K hK => ?_)
                  refine goes_ Tryd.func53 (by kernel_rfl) rfl #[.string (rdOf ByteArray.empty t318 x14_2), .string (rdOf ByteArray.empty t326 x14_2)] (by rfl) rfl rfl (by (try simp only [List.map_toArray, List.map_cons, List.map_nil]); first | done | rfl | (simp only [List.length_drop, List.length_take]; rfl)) ?_
                  with_reducible refine (graftwoodref03_words.calls kj33 (rdOf ByteArray.empty t318 x14_2) (rdOf ByteArray.empty t326 x14_2) t336 _ A40.out).mono ?_
                  rintro e w43 ⟨rfl, hb⟩
                  have HS8_ := (hb.cell (World.block_lt_of_cell? _ _ (hHeld.2.2.2.2.2.2.2.2.1))).trans (hHeld.2.2.2.2.2.2.2.2.1)
                  have HS9_ := (hb.cell (World.block_lt_of_cell? _ _ (hHeld.2.2.2.2.2.2.2.2.2))).trans (hHeld.2.2.2.2.2.2.2.2.2)
                  refine ⟨_, rfl, ?_⟩
                  have n0_ := Aside0.mk (Kd.R_below (by (with_reducible repeat (first | apply Kd.R_alloc | apply Kd.R_drewN | apply Kd.R_drew)); exact HO_323003.out) hb)
                  have n1_ := Aside0.mk (Kd.R_below (by (with_reducible repeat (first | apply Kd.R_alloc | apply Kd.R_drewN | apply Kd.R_drew)); exact HO_331003.out) hb)
                  have n2_ := Aside0.mk (blk_below (g := gb322) (o := .cells #[.string t315, .string t316, .string t317, .slice (some ad334) t318.length co15] 64 (0, 0)) (by (with_reducible repeat (first | refine blk_drewN ?_ _ | refine blk_drew ?_ | refine blk_alloc ?_ _)); exact BK322.out) hb)
                  have n3_ := Aside0.mk (blk_below (g := gb330) (o := .cells #[.string t323, .string t324, .string t325, .slice (some ad335) t326.length co20] 64 (0, 0)) (by (with_reducible repeat (first | refine blk_drewN ?_ _ | refine blk_drew ?_ | refine blk_alloc ?_ _)); exact BK330.out) hb)
                  have n4_ := Aside0.mk (below_step (by repeat (first | (with_reducible first | exact HB.out | apply below_alloc | apply pw_below_drewN | apply below_drew1 | refine below_set ?_ GE322.out | refine below_set ?_ GE330.out) | exact HB.out)) hb)
                  clear HO_323003 HO_331003 BK322 BK330 HB
                  have HO_323003 := n0_
                  have HO_331003 := n1_
                  have BK322 := n2_
                  have BK330 := n3_
                  have HB := n4_
                  clear n0_ n1_ n2_ n3_ n4_
                  (try clear hb)
                  (try clear hb2)
                  (try clear hk)
                  (try clear hi)
                  refine hK.out _ _ ⟨(blk_cell BK322.out 0).trans rfl, (blk_cell BK322.out 1).trans rfl, (blk_cell BK322.out 2).trans rfl, (blk_cell BK322.out 3).trans rfl, (blk_cell BK330.out 0).trans rfl, (blk_cell BK330.out 1).trans rfl, (blk_cell BK330.out 2).trans rfl, (blk_cell BK330.out 3).trans rfl, HS8_, HS9_⟩ (fun hHeld => ?_)
                  clear hK K
                  refine norm_ (a' := ?_) ?_ ?_
                  rotate_left
                  ·show Act.put _ (some 86) _ = _
                   simp only [Act.put, List.setIfInBounds_toArray, List.set_cons_zero, List.set_cons_succ, i64_w, i32_w]
                   rfl
                  refine pure_ (i := 11) (N := some 15) (v := ?_) (a' := ?_) #[true, true, true, true, true, true, true, true, true, true, true, true] rfl rfl (any_of HT_.out (by kernel_rfl)) (fun _ _ _ h => h) (Or.inl ⟨by rfl, ?_⟩) ?_ ?_
                  rotate_left
                  ·intro w'
                   go_simp
                   with_reducible rfl
                  rotate_left
                  ·simp only [Act.put, List.setIfInBounds_toArray, List.set_cons_zero, List.set_cons_succ, i64_w, i32_w]
                   rfl
                  refine done_ (done_of HT_.out (by kernel_rfl)) ?_
                  try go_wp2
                  go_roundg kj33
                  case measure => have := HJ10.out; have := HK2.out; have := HJ33.out; omega
                  case rel => exact ⟨(wrap64 (x14_2 + 1)), (by first | rfl | (simp; done) | (simp [*]; done)), H', ⟨by have := HJ10.out; have := HK2.out; have := HJ33.out; omega⟩, ⟨by (with_reducible repeat (first | apply Kd.R_alloc | apply Kd.R_drewN | apply Kd.R_drew)); exact HO_323003.out⟩, ⟨by (with_reducible repeat (first | apply Kd.R_alloc | apply Kd.R_drewN | apply Kd.R_drew)); exact HO_331003.out⟩, ⟨by (with_reducible repeat (first | refine blk_drewN ?_ _ | refine blk_drew ?_ | refine blk_alloc ?_ _)); exact BK322.out⟩, ⟨by (with_reducible repeat (first | refine blk_drewN ?_ _ | refine blk_drew ?_ | refine blk_alloc ?_ _)); exact BK330.out⟩, ⟨by repeat (first | (with_reducible first | exact HB.out | apply below_alloc | apply pw_below_drewN | apply below_drew1 | refine below_set ?_ GE322.out | refine below_set ?_ GE330.out) | exact HB.out)⟩⟩
                 ·rw [if_neg c41] at H
                  have c41b0 : (t336 == 0) = false := beq_eq_false_iff_ne.mpr c41
                  have c41b1 : (t336 != 0) = true := bne_iff_ne.mpr c41
                  obtain rfl := Option.some.inj H
                  try go_wp2
                  have n0_ := Aside0.mk (Kd.R_drew HO_323003.out)
                  have n1_ := Aside0.mk (Kd.R_drew HO_331003.out)
                  have n2_ := Aside0.mk (blk_drew BK322.out)
                  have n3_ := Aside0.mk (blk_drew BK330.out)
                  have n4_ := Aside0.mk (below_drew1 HB.out)
                  clear HO_323003 HO_331003 BK322 BK330 HB
                  have HO_323003 := n0_
                  have HO_331003 := n1_
                  have BK322 := n2_
                  have BK330 := n3_
                  have HB := n4_
                  clear n0_ n1_ n2_ n3_ n4_
                  have p334 : 0 ≤ (x14_2 : Int) := of_decide_eq_true (by first | (with_reducible assumption) | assumption)
                  have q334 : x14_2 < (t318.length : Int) := of_decide_eq_true (by first | (with_reducible assumption) | assumption)
                  obtain ⟨ad334, e334, hx334_0⟩ := Kd.at_string (Kd.R_reads' HO_323003.out).2.2 x14_2 p334 q334
                  cases e334
                  replace p334 := eq_true p334
                  replace q334 := eq_true q334
                  have p335 : 0 ≤ (x14_2 : Int) := of_decide_eq_true (by first | (with_reducible assumption) | assumption)
                  have q335 : x14_2 < (t326.length : Int) := of_decide_eq_true (by first | (with_reducible assumption) | assumption)
                  obtain ⟨ad335, e335, hx335_0⟩ := Kd.at_string (Kd.R_reads' HO_331003.out).2.2 x14_2 p335 q335
                  cases e335
                  replace p335 := eq_true p335
                  replace q335 := eq_true q335
                  refine start_ (n := 12) (S := fun w' => w'.cell? ⟨gb322, 0, none⟩ = some (.string t315) ∧ w'.cell? ⟨gb322, 1, none⟩ = some (.string t316) ∧ w'.cell? ⟨gb322, 2, none⟩ = some (.string t317) ∧ w'.cell? ⟨gb322, 3, none⟩ = some (.slice (some ad334) t318.length co15) ∧ w'.cell? ⟨gb330, 0, none⟩ = some (.string t323) ∧ w'.cell? ⟨gb330, 1, none⟩ = some (.string t324) ∧ w'.cell? ⟨gb330, 2, none⟩ = some (.string t325) ∧ w'.cell? ⟨gb330, 3, none⟩ = some (.slice (some ad335) t326.length co20) ∧ w'.cell? (ad334.add (x14_2).toNat) = some (.string (rdOf ByteArray.empty t318 x14_2)) ∧ w'.cell? (ad335.add (x14_2).toNat) = some (.string (rdOf ByteArray.empty t326 x14_2))) (ds := []) #[false, false, false, false, false, false, false, false, false, false, false, false] (by kernel_rfl) rfl rfl ⟨(blk_cell BK322.out 0).trans rfl, (blk_cell BK322.out 1).trans rfl, (blk_cell BK322.out 2).trans rfl, (blk_cell BK322.out 3).trans rfl, (blk_cell BK330.out 0).trans rfl, (blk_cell BK330.out 1).trans rfl, (blk_cell BK330.out 2).trans rfl, (blk_cell BK330.out 3).trans rfl, hx334_0, hx335_0⟩ (fun hHeld => ?_); refine with_tabW graftwoodref03_Cmp.tab22 graftwoodref03_Cmp.bits22 (fun HT_ HW_ => ?_)
                  generalize wc.drew = w44 at HO_323003 HO_331003 BK322 BK330 HB hx334_0 hx335_0 hHeld ⊢
                  refine pure_ (i := 0) (N := some 76) (v := ?_) (a' := ?_) #[true, false, false, false, false, false, false, false, false, false, false, false] rfl rfl (any_of HT_.out (by kernel_rfl)) (fun _ _ _ h => h) (Or.inl ⟨by rfl, ?_⟩) ?_ ?_
                  rotate_left
                  ·intro w'
                   go_simp
                   with_reducible rfl
                  rotate_left
                  ·simp only [Act.put, List.setIfInBounds_toArray, List.set_cons_zero, List.set_cons_succ, i64_w, i32_w]
                   rfl
                  refine pure_ (i := 2) (N := some 78) (v := ?_) (a' := ?_) #[true, false, true, false, false, false, false, false, false, false, false, false] rfl rfl (any_of HT_.out (by kernel_rfl)) (fun _ _ _ h => h) (Or.inl ⟨by rfl, ?_⟩) ?_ ?_
                  rotate_left
                  ·intro w'
                   go_simp
                   with_reducible rfl
                  rotate_left
                  ·simp only [Act.put, List.setIfInBounds_toArray, List.set_cons_zero, List.set_cons_succ, i64_w, i32_w]
                   rfl
                  refine pure_ (i := 5) (N := some 81) (v := ?_) (a' := ?_) #[true, false, true, false, false, true, false, false, false, false, false, false] rfl rfl (any_of HT_.out (by kernel_rfl)) (fun _ _ _ h => h) (Or.inl ⟨by rfl, ?_⟩) ?_ ?_
                  rotate_left
                  ·intro w'
                   go_simp
                   with_reducible rfl
                  rotate_left
                  ·simp only [Act.put, List.setIfInBounds_toArray, List.set_cons_zero, List.set_cons_succ, i64_w, i32_w]
                   rfl
                  refine pure_ (i := 7) (N := some 83) (v := ?_) (a' := ?_) #[true, false, true, false, false, true, false, true, false, false, false, false] rfl rfl (any_of HT_.out (by kernel_rfl)) (fun _ _ _ h => h) (Or.inl ⟨by rfl, ?_⟩) ?_ ?_
                  rotate_left
                  ·intro w'
                   go_simp
                   with_reducible rfl
                  rotate_left
                  ·simp only [Act.put, List.setIfInBounds_toArray, List.set_cons_zero, List.set_cons_succ, i64_w, i32_w]
                   rfl
                  refine take_ (i := 1) (N := some 77) (v := ?_) (a' := ?_) #[true, true, true, false, false, true, false, true, false, false, false, false] rfl rfl (take_ofW HT_.out HW_.out (by kernel_rfl)) (fun _ _ _ h => h) (Or.inl ⟨by rfl, ?_⟩) hHeld ?_ ?_
                  rotate_left
                  ·rintro w' ⟨s0, s1, s2, s3, s4, s5, s6, s7, s8, s9⟩
                   go_simp
                   with_reducible rfl
                  rotate_left
                  ·simp only [Act.put, List.setIfInBounds_toArray, List.set_cons_zero, List.set_cons_succ, i64_w, i32_w]
                   rfl
                  refine pure_ (i := 3) (N := some 79) (v := ?_) (a' := ?_) #[true, true, true, true, false, true, false, true, false, false, false, false] rfl rfl (any_of HT_.out (by kernel_rfl)) (fun _ _ _ h => h) (Or.inl ⟨by rfl, ?_⟩) ?_ ?_
                  rotate_left
                  ·intro w'
                   go_simp
                   with_reducible rfl
                  rotate_left
                  ·simp only [Act.put, List.setIfInBounds_toArray, List.set_cons_zero, List.set_cons_succ, i64_w, i32_w]
                   rfl
                  refine take_ (i := 4) (N := some 80) (v := ?_) (a' := ?_) #[true, true, true, true, true, true, false, true, false, false, false, false] rfl rfl (take_ofW HT_.out HW_.out (by kernel_rfl)) (fun _ _ _ h => h) (Or.inl ⟨by rfl, ?_⟩) hHeld ?_ ?_
                  rotate_left
                  ·rintro w' ⟨s0, s1, s2, s3, s4, s5, s6, s7, s8, s9⟩
                   go_simp
                   with_reducible rfl
                  rotate_left
                  ·simp only [Act.put, List.setIfInBounds_toArray, List.set_cons_zero, List.set_cons_succ, i64_w, i32_w]
                   rfl
                  refine take_ (i := 6) (N := some 82) (v := ?_) (a' := ?_) #[true, true, true, true, true, true, true, true, false, false, false, false] rfl rfl (take_ofW HT_.out HW_.out (by kernel_rfl)) (fun _ _ _ h => h) (Or.inl ⟨by rfl, ?_⟩) hHeld ?_ ?_
                  rotate_left
                  ·rintro w' ⟨s0, s1, s2, s3, s4, s5, s6, s7, s8, s9⟩
                   go_simp
                   with_reducible rfl
                  rotate_left
                  ·simp only [Act.put, List.setIfInBounds_toArray, List.set_cons_zero, List.set_cons_succ, i64_w, i32_w]
                   rfl
                  refine pure_ (i := 8) (N := some 84) (v := ?_) (a' := ?_) #[true, true, true, true, true, true, true, true, true, false, false, false] rfl rfl (any_of HT_.out (by kernel_rfl)) (fun _ _ _ h => h) (Or.inl ⟨by rfl, ?_⟩) ?_ ?_
                  rotate_left
                  ·intro w'
                   go_simp
                   with_reducible rfl
                  rotate_left
                  ·simp only [Act.put, List.setIfInBounds_toArray, List.set_cons_zero, List.set_cons_succ, i64_w, i32_w]
                   rfl
                  refine take_ (i := 9) (N := some 85) (v := ?_) (a' := ?_) #[true, true, true, true, true, true, true, true, true, true, false, false] rfl rfl (take_ofW HT_.out HW_.out (by kernel_rfl)) (fun _ _ _ h => h) (Or.inl ⟨by rfl, ?_⟩) hHeld ?_ ?_
                  rotate_left
                  ·rintro w' ⟨s0, s1, s2, s3, s4, s5, s6, s7, s8, s9⟩
                   go_simp
                   with_reducible rfl
                  rotate_left
                  ·simp only [Act.put, List.setIfInBounds_toArray, List.set_cons_zero, List.set_cons_succ, i64_w, i32_w]
                   rfl
                  refine one_ (i := 10) (N := some 86) #[true, true, true, true, true, true, true, true, true, true, true, false] rfl rfl (one_of HT_.out (by kernel_rfl)) (by decide) (fun K hK => ?_)
                  refine goes_ Tryd.func53 (by kernel_rfl) rfl #[.string (rdOf ByteArray.empty t318 x14_2), .string (rdOf ByteArray.empty t326 x14_2)] (by rfl) rfl rfl (by (try simp only [List.map_toArray, List.map_cons, List.map_nil]); first | done | rfl | (simp only [List.length_drop, List.length_take]; rfl)) ?_
                  with_reducible refine (graftwoodref03_words.calls kj33 (rdOf ByteArray.empty t318 x14_2) (rdOf ByteArray.empty t326 x14_2) t336 _ A40.out).mono ?_
                  rintro e w45 ⟨rfl, hb⟩
                  have HS8_ := (hb.cell (World.block_lt_of_cell? _ _ (hHeld.2.2.2.2.2.2.2.2.1))).trans (hHeld.2.2.2.2.2.2.2.2.1)
                  have HS9_ := (hb.cell (World.block_lt_of_cell? _ _ (hHeld.2.2.2.2.2.2.2.2.2))).trans (hHeld.2.2.2.2.2.2.2.2.2)
                  refine ⟨_, rfl, ?_⟩
                  have n0_ := Aside0.mk (Kd.R_below (by (with_reducible repeat (first | apply Kd.R_alloc | apply Kd.R_drewN | apply Kd.R_drew)); exact HO_323003.out) hb)
                  have n1_ := Aside0.mk (Kd.R_below (by (with_reducible repeat (first | apply Kd.R_alloc | apply Kd.R_drewN | apply Kd.R_drew)); exact HO_331003.out) hb)
                  have n2_ := Aside0.mk (blk_below (g := gb322) (o := .cells #[.string t315, .string t316, .string t317, .slice (some ad334) t318.length co15] 64 (0, 0)) (by (with_reducible repeat (first | refine blk_drewN ?_ _ | refine blk_drew ?_ | refine blk_alloc ?_ _)); exact BK322.out) hb)
                  have n3_ := Aside0.mk (blk_below (g := gb330) (o := .cells #[.string t323, .string t324, .string t325, .slice (some ad335) t326.length co20] 64 (0, 0)) (by (with_reducible repeat (first | refine blk_drewN ?_ _ | refine blk_drew ?_ | refine blk_alloc ?_ _)); exact BK330.out) hb)
                  have n4_ := Aside0.mk (below_step (by repeat (first | (with_reducible first | exact HB.out | apply below_alloc | apply pw_below_drewN | apply below_drew1 | refine below_set ?_ GE322.out | refine below_set ?_ GE330.out) | exact HB.out)) hb)
                  clear HO_323003 HO_331003 BK322 BK330 HB
                  have HO_323003 := n0_
                  have HO_331003 := n1_
                  have BK322 := n2_
                  have BK330 := n3_
                  have HB := n4_
                  clear n0_ n1_ n2_ n3_ n4_
                  (try clear hb)
                  (try clear hb2)
                  (try clear hk)
                  (try clear hi)
                  refine hK.out _ _ ⟨(blk_cell BK322.out 0).trans rfl, (blk_cell BK322.out 1).trans rfl, (blk_cell BK322.out 2).trans rfl, (blk_cell BK322.out 3).trans rfl, (blk_cell BK330.out 0).trans rfl, (blk_cell BK330.out 1).trans rfl, (blk_cell BK330.out 2).trans rfl, (blk_cell BK330.out 3).trans rfl, HS8_, HS9_⟩ (fun hHeld => ?_)
                  clear hK K
                  refine norm_ (a' := ?_) ?_ ?_
                  rotate_left
                  ·show Act.put _ (some 86) _ = _
                   simp only [Act.put, List.setIfInBounds_toArray, List.set_cons_zero, List.set_cons_succ, i64_w, i32_w]
                   rfl
                  refine pure_ (i := 11) (N := some 15) (v := ?_) (a' := ?_) #[true, true, true, true, true, true, true, true, true, true, true, true] rfl rfl (any_of HT_.out (by kernel_rfl)) (fun _ _ _ h => h) (Or.inl ⟨by rfl, ?_⟩) ?_ ?_
                  rotate_left
                  ·intro w'
                   go_simp
                   with_reducible rfl
                  rotate_left
                  ·simp only [Act.put, List.setIfInBounds_toArray, List.set_cons_zero, List.set_cons_succ, i64_w, i32_w]
                   rfl
                  refine done_ (done_of HT_.out (by kernel_rfl)) ?_
                  try go_wp2
                  go_ret
                  exact ⟨by first | rfl | (simp [errW_none, errW_some] <;> rfl) | (simp [*, errW_none, errW_some] <;> rfl), by repeat (first | (with_reducible first | exact HB.out | apply below_alloc | apply pw_below_drewN | apply below_drew1 | refine below_set ?_ GE322.out | refine below_set ?_ GE330.out) | exact HB.out)⟩
                ·rw [if_neg c39] at H
                 exact absurd H (by simp)
               ·rw [if_neg c38] at H
                exact absurd H (by simp)
              ·rw [if_neg c37] at H
               exact absurd H (by simp)
             ·replace c36 := Bool.eq_false_iff.mpr c36
              subst c36
              have H1 : (if (t318.length : Int) < (t326.length : Int) then (some (-1)) else (if (t318.length : Int) > (t326.length : Int) then (some 1) else (some 0))) = some r := by rw [if_neg (show ¬ (false = true) by decide)] at H; exact H
              clear H
              have H := H1
              clear H1
              by_cases c46 : (t318.length : Int) < (t326.length : Int)
              ·rw [if_pos c46] at H
               have c46b0 : decide ((t318.length : Int) < (t326.length : Int)) = true := decide_eq_true c46
               have c46b1 : decide (t318.length < t326.length) = true := decide_eq_true (Int.ofNat_lt.mp c46)
               clear c46
               obtain rfl := Option.some.inj H
               go_wp2
               go_ret
               exact ⟨by first | rfl | (simp [errW_none, errW_some] <;> rfl) | (simp [*, errW_none, errW_some] <;> rfl), by repeat (first | (with_reducible first | exact HB.out | apply below_alloc | apply pw_below_drewN | apply below_drew1 | refine below_set ?_ GE322.out | refine below_set ?_ GE330.out) | exact HB.out)⟩
              ·rw [if_neg c46] at H
               have c46b0 : decide ((t318.length : Int) < (t326.length : Int)) = false := decide_eq_false c46
               have c46b1 : decide (t318.length < t326.length) = false := decide_eq_false (fun h => c46 (Int.ofNat_lt.mpr h))
               clear c46
               by_cases c47 : (t318.length : Int) > (t326.length : Int)
               ·rw [if_pos c47] at H
                have c47b0 : decide ((t326.length : Int) < (t318.length : Int)) = true := decide_eq_true c47
                have c47b1 : decide (t326.length < t318.length) = true := decide_eq_true (Int.ofNat_lt.mp c47)
                clear c47
                obtain rfl := Option.some.inj H
                go_wp2
                go_ret
                exact ⟨by first | rfl | (simp [errW_none, errW_some] <;> rfl) | (simp [*, errW_none, errW_some] <;> rfl), by repeat (first | (with_reducible first | exact HB.out | apply below_alloc | apply pw_below_drewN | apply below_drew1 | refine below_set ?_ GE322.out | refine below_set ?_ GE330.out) | exact HB.out)⟩
               ·rw [if_neg c47] at H
                have c47b0 : decide ((t326.length : Int) < (t318.length : Int)) = false := decide_eq_false c47
                have c47b1 : decide (t326.length < t318.length) = false := decide_eq_false (fun h => c47 (Int.ofNat_lt.mpr h))
                clear c47
                obtain rfl := Option.some.inj H
                go_wp2
                go_ret
                exact ⟨by first | rfl | (simp [errW_none, errW_some] <;> rfl) | (simp [*, errW_none, errW_some] <;> rfl), by repeat (first | (with_reducible first | exact HB.out | apply below_alloc | apply pw_below_drewN | apply below_drew1 | refine below_set ?_ GE322.out | refine below_set ?_ GE330.out) | exact HB.out)⟩
   ·rw [if_neg c10] at H
    have c10b0 : (t333 == 0) = false := beq_eq_false_iff_ne.mpr c10
    have c10b1 : (t333 != 0) = true := bne_iff_ne.mpr c10
    obtain rfl := Option.some.inj H
    go_enter Tryd.func44, Tryd.ntmps44
    go_wp2_with (first | ((with_reducible refine gate_callee (f := 36) rfl ?_); refine goesL_ (some 18) rfl rfl Tryd.func36 (by kernel_rfl) rfl #[.string a0] rfl (by (try simp only [List.map_toArray, List.map_cons, List.map_nil]); first | done | rfl | (simp only [List.length_drop, List.length_take]; rfl)) ?_; (with_reducible refine (graftwoodref03_Split.calls k a0 t315 t316 t317 t318 t321 _ A3.out).mono ?_); rintro e w48 ⟨v319, rfl, ho0, hb⟩; refine ⟨_, rfl, ?_⟩; have n0_ := Aside0.mk (Kd.R_lower ho0 (below_size (by repeat (first | (with_reducible first | exact HB.out | apply below_alloc | apply pw_below_drewN | apply below_drew1) | exact HB.out)))); have n1_ := Aside0.mk (below_step (by repeat (first | (with_reducible first | exact HB.out | apply below_alloc | apply pw_below_drewN | apply below_drew1) | exact HB.out)) hb); clear HB; have HO320 := n0_; have HB := n1_; clear n0_ n1_; (try clear hb); (try clear hb2); (try clear hk); (try clear hi); (try clear ho0)) | ((with_reducible refine gate_dst (N := 5) rfl ?_); refine box_event ?hg (N := 5) ?hd (cs := #[.string (⟨#[]⟩ : ByteArray), .string (⟨#[]⟩ : ByteArray), .string (⟨#[]⟩ : ByteArray), .slice none 0 0]) (t := 64) ?hr ?_; (case hd => rfl); (case hg => rfl); (case hr => first | (go_simp; done) | (go_simp; rfl)); intro gb322 hg w49 hbox hb; have n0_ := Aside0.mk (Kd.R_below (by (with_reducible repeat (first | apply Kd.R_alloc | apply Kd.R_drewN | apply Kd.R_drew)); exact HO320.out) hb); have n1_ := Aside0.mk (below_step (by repeat (first | (with_reducible first | exact HB.out | apply below_alloc | apply pw_below_drewN | apply below_drew1) | exact HB.out)) hb); have n2_ := Aside0.mk (hbox); have n3_ := Aside0.mk ((by rw [hg]; exact (below_size (by repeat (first | (with_reducible first | exact HB.out | apply below_alloc | apply pw_below_drewN | apply below_drew1) | exact HB.out))) : w.heap.size ≤ gb322)); have n4_ := Aside0.mk ((by rw [hg]; exact (below_size (by repeat (first | (with_reducible first | exact HB.out | apply below_alloc | apply pw_below_drewN | apply below_drew1) | exact HB.out))) : w.heap.size ≤ gb322)); clear HO320; clear HB; have HO320 := n0_; have HB := n1_; have BK322 := n2_; have GW322 := n3_; have GE322 := n4_; clear n0_ n1_ n2_ n3_ n4_; clear hb hbox hg; have hcz50_0 : w49.cell? ⟨gb322, 0, none⟩ = some (.string (⟨#[]⟩ : ByteArray)) := (blk_cell BK322.out 0).trans rfl; have hcz50_1 : w49.cell? ⟨gb322, 1, none⟩ = some (.string (⟨#[]⟩ : ByteArray)) := (blk_cell BK322.out 1).trans rfl; have hcz50_2 : w49.cell? ⟨gb322, 2, none⟩ = some (.string (⟨#[]⟩ : ByteArray)) := (blk_cell BK322.out 2).trans rfl; have hcz50_3 : w49.cell? ⟨gb322, 3, none⟩ = some (.slice none 0 0) := (blk_cell BK322.out 3).trans rfl; have hfz50_0 := blk_frozen BK322.out 0; have hfz50_1 := blk_frozen BK322.out 1; have hfz50_2 := blk_frozen BK322.out 2; have hfz50_3 := blk_frozen BK322.out 3; obtain ⟨Ao51, co51, eo51⟩ := Kd.R_slice HO320.out; subst eo51) | ((with_reducible refine gate_callee (f := 36) rfl ?_); refine goesL_ (some 23) rfl rfl Tryd.func36 (by kernel_rfl) rfl #[.string a1] rfl (by (try simp only [List.map_toArray, List.map_cons, List.map_nil]); first | done | rfl | (simp only [List.length_drop, List.length_take]; rfl)) ?_; (with_reducible refine (graftwoodref03_Split.calls k a1 t323 t324 t325 t326 t329 _ A4.out).mono ?_); rintro e w52 ⟨v327, rfl, ho0, hb⟩; refine ⟨_, rfl, ?_⟩; have n0_ := Aside0.mk (Kd.R_elder' (by (with_reducible repeat (first | apply Kd.R_alloc | apply Kd.R_drewN | apply Kd.R_drew)); exact (Kd.R_mono (Kd.R_far (p := ⟨gb322, 3, none⟩) (Kd.R_far (p := ⟨gb322, 2, none⟩) (Kd.R_far (p := ⟨gb322, 1, none⟩) (Kd.R_far (p := ⟨gb322, 0, none⟩) (Kd.R_types HO320.out BK322.out (by decide)) (fun _ hk => hk.2) (.string t315)) (fun _ hk => hk.2) (.string t316)) (fun _ hk => hk.2) (.string t317)) (fun _ hk => hk.2) (.slice Ao51 t318.length co51)) (fun _ h_ => h_.1))) (Kd.R_base ho0) hb); have n1_ := Aside0.mk (Kd.R_lower (Kd.R_new' ho0 (Kd.R_lt (by (with_reducible repeat (first | apply Kd.R_alloc | apply Kd.R_drewN | apply Kd.R_drew)); exact (Kd.R_mono (Kd.R_far (p := ⟨gb322, 3, none⟩) (Kd.R_far (p := ⟨gb322, 2, none⟩) (Kd.R_far (p := ⟨gb322, 1, none⟩) (Kd.R_far (p := ⟨gb322, 0, none⟩) (Kd.R_types HO320.out BK322.out (by decide)) (fun _ hk => hk.2) (.string t315)) (fun _ hk => hk.2) (.string t316)) (fun _ hk => hk.2) (.string t317)) (fun _ hk => hk.2) (.slice Ao51 t318.length co51)) (fun _ h_ => h_.1))))) (below_size (by repeat (first | (with_reducible first | exact HB.out | apply below_alloc | apply pw_below_drewN | apply below_drew1 | refine below_set ?_ GE322.out) | exact HB.out)))); have n2_ := Aside0.mk (blk_below (g := gb322) (o := .cells #[.string t315, .string t316, .string t317, .slice Ao51 t318.length co51] 64 (0, 0)) (by (with_reducible repeat (first | refine blk_drewN ?_ _ | refine blk_drew ?_ | refine blk_alloc ?_ _)); refine blk_put (cs := #[.string t315, .string t316, .string t317, .slice none 0 0]) ?_ 3 _ rfl; (with_reducible repeat (first | refine blk_drewN ?_ _ | refine blk_drew ?_ | refine blk_alloc ?_ _)); refine blk_put (cs := #[.string t315, .string t316, .string (⟨#[]⟩ : ByteArray), .slice none 0 0]) ?_ 2 _ rfl; (with_reducible repeat (first | refine blk_drewN ?_ _ | refine blk_drew ?_ | refine blk_alloc ?_ _)); refine blk_put (cs := #[.string t315, .string (⟨#[]⟩ : ByteArray), .string (⟨#[]⟩ : ByteArray), .slice none 0 0]) ?_ 1 _ rfl; (with_reducible repeat (first | refine blk_drewN ?_ _ | refine blk_drew ?_ | refine blk_alloc ?_ _)); refine blk_put (cs := #[.string (⟨#[]⟩ : ByteArray), .string (⟨#[]⟩ : ByteArray), .string (⟨#[]⟩ : ByteArray), .slice none 0 0]) ?_ 0 _ rfl; (with_reducible repeat (first | refine blk_drewN ?_ _ | refine blk_drew ?_ | refine blk_alloc ?_ _)); exact BK322.out) hb); have n3_ := Aside0.mk (below_step (by repeat (first | (with_reducible first | exact HB.out | apply below_alloc | apply pw_below_drewN | apply below_drew1 | refine below_set ?_ GE322.out) | exact HB.out)) hb); clear HO320; clear BK322; clear HB; have HO320 := n0_; have HO328 := n1_; have BK322 := n2_; have HB := n3_; clear n0_ n1_ n2_ n3_; (try clear hb); (try clear hb2); (try clear hk); (try clear hi); (try clear ho0)) | ((with_reducible refine gate_dst (N := 7) rfl ?_); refine box_event ?hg (N := 7) ?hd (cs := #[.string (⟨#[]⟩ : ByteArray), .string (⟨#[]⟩ : ByteArray), .string (⟨#[]⟩ : ByteArray), .slice none 0 0]) (t := 64) ?hr ?_; (case hd => rfl); (case hg => rfl); (case hr => first | (go_simp; done) | (go_simp; rfl)); intro gb330 hg w53 hbox hb; have n0_ := Aside0.mk (Kd.R_below (by (with_reducible repeat (first | apply Kd.R_alloc | apply Kd.R_drewN | apply Kd.R_drew)); exact HO320.out) hb); have n1_ := Aside0.mk (Kd.R_below (by (with_reducible repeat (first | apply Kd.R_alloc | apply Kd.R_drewN | apply Kd.R_drew)); exact HO328.out) hb); have n2_ := Aside0.mk (blk_below (g := gb322) (o := .cells #[.string t315, .string t316, .string t317, .slice Ao51 t318.length co51] 64 (0, 0)) (by (with_reducible repeat (first | refine blk_drewN ?_ _ | refine blk_drew ?_ | refine blk_alloc ?_ _)); exact BK322.out) hb); have n3_ := Aside0.mk (below_step (by repeat (first | (with_reducible first | exact HB.out | apply below_alloc | apply pw_below_drewN | apply below_drew1 | refine below_set ?_ GE322.out) | exact HB.out)) hb); have n4_ := Aside0.mk (hbox); have n5_ := Aside0.mk ((by rw [hg]; exact (below_size (by repeat (first | (with_reducible first | exact HB.out | apply below_alloc | apply pw_below_drewN | apply below_drew1 | refine below_set ?_ GE322.out) | exact HB.out))) : w.heap.size ≤ gb330)); have n6_ := Aside0.mk ((by rw [hg]; exact (below_size (by repeat (first | (with_reducible first | exact HB.out | apply below_alloc | apply pw_below_drewN | apply below_drew1 | refine below_set ?_ GE322.out) | exact HB.out))) : w.heap.size ≤ gb330)); have n7_ := Aside0.mk ((by rw [hg]; exact Nat.ne_of_lt (blk_lt (g := gb322) (o := .cells #[.string t315, .string t316, .string t317, .slice Ao51 t318.length co51] 64 (0, 0)) (by (with_reducible repeat (first | refine blk_drewN ?_ _ | refine blk_drew ?_ | refine blk_alloc ?_ _)); exact BK322.out)) : gb322 ≠ gb330)); have n8_ := Aside0.mk ((by rw [hg]; exact Nat.ne_of_gt (blk_lt (g := gb322) (o := .cells #[.string t315, .string t316, .string t317, .slice Ao51 t318.length co51] 64 (0, 0)) (by (with_reducible repeat (first | refine blk_drewN ?_ _ | refine blk_drew ?_ | refine blk_alloc ?_ _)); exact BK322.out)) : gb330 ≠ gb322)); clear HO320; clear HO328; clear BK322; clear HB; have HO320 := n0_; have HO328 := n1_; have BK322 := n2_; have HB := n3_; have BK330 := n4_; have GW330 := n5_; have GE330 := n6_; have NB322_330 := n7_; have NB330_322 := n8_; clear n0_ n1_ n2_ n3_ n4_ n5_ n6_ n7_ n8_; clear hb hbox hg; have hnb54 := NB330_322.out; have hnc54 := NB322_330.out; have hcz55_0 : w53.cell? ⟨gb330, 0, none⟩ = some (.string (⟨#[]⟩ : ByteArray)) := (blk_cell BK330.out 0).trans rfl; have hcz55_1 : w53.cell? ⟨gb330, 1, none⟩ = some (.string (⟨#[]⟩ : ByteArray)) := (blk_cell BK330.out 1).trans rfl; have hcz55_2 : w53.cell? ⟨gb330, 2, none⟩ = some (.string (⟨#[]⟩ : ByteArray)) := (blk_cell BK330.out 2).trans rfl; have hcz55_3 : w53.cell? ⟨gb330, 3, none⟩ = some (.slice none 0 0) := (blk_cell BK330.out 3).trans rfl; have hfz55_0 := blk_frozen BK330.out 0; have hfz55_1 := blk_frozen BK330.out 1; have hfz55_2 := blk_frozen BK330.out 2; have hfz55_3 := blk_frozen BK330.out 3; obtain ⟨Ao56, co56, eo56⟩ := Kd.R_slice HO328.out; subst eo56; have hcz57_0 : w53.cell? ⟨gb322, 0, none⟩ = some (.string t315) := (blk_cell BK322.out 0).trans rfl; have hcz57_1 : w53.cell? ⟨gb322, 1, none⟩ = some (.string t316) := (blk_cell BK322.out 1).trans rfl; have hcz57_2 : w53.cell? ⟨gb322, 2, none⟩ = some (.string t317) := (blk_cell BK322.out 2).trans rfl; have hcz57_3 : w53.cell? ⟨gb322, 3, none⟩ = some (.slice Ao51 t318.length co51) := (blk_cell BK322.out 3).trans rfl; have hfz57_0 := blk_frozen BK322.out 0; have hfz57_1 := blk_frozen BK322.out 1; have hfz57_2 := blk_frozen BK322.out 2; have hfz57_3 := blk_frozen BK322.out 3) | ((with_reducible refine gate_callee (f := 52) rfl ?_); refine goesL_ (some 30) rfl rfl Tryd.func52 (by kernel_rfl) rfl #[.string t315, .string t323] rfl (by (try simp only [List.map_toArray, List.map_cons, List.map_nil]); first | done | rfl | (simp only [List.length_drop, List.length_take]; rfl)) ?_; (with_reducible refine (graftwoodref02_Cmp.calls k t315 t323 t331 _ A5.out).mono ?_); rintro e w58 ⟨rfl, hb⟩; refine ⟨_, rfl, ?_⟩; have n0_ := Aside0.mk (Kd.R_below (by (with_reducible repeat (first | apply Kd.R_alloc | apply Kd.R_drewN | apply Kd.R_drew)); exact (Kd.R_mono (Kd.R_far (p := ⟨gb330, 3, none⟩) (Kd.R_far (p := ⟨gb330, 2, none⟩) (Kd.R_far (p := ⟨gb330, 1, none⟩) (Kd.R_far (p := ⟨gb330, 0, none⟩) (Kd.R_types HO320.out BK330.out (by decide)) (fun _ hk => hk.2) (.string t323)) (fun _ hk => hk.2) (.string t324)) (fun _ hk => hk.2) (.string t325)) (fun _ hk => hk.2) (.slice Ao56 t326.length co56)) (fun _ h_ => h_.1))) hb); have n1_ := Aside0.mk (Kd.R_below (by (with_reducible repeat (first | apply Kd.R_alloc | apply Kd.R_drewN | apply Kd.R_drew)); exact (Kd.R_mono (Kd.R_far (p := ⟨gb330, 3, none⟩) (Kd.R_far (p := ⟨gb330, 2, none⟩) (Kd.R_far (p := ⟨gb330, 1, none⟩) (Kd.R_far (p := ⟨gb330, 0, none⟩) (Kd.R_types HO328.out BK330.out (by decide)) (fun _ hk => hk.2) (.string t323)) (fun _ hk => hk.2) (.string t324)) (fun _ hk => hk.2) (.string t325)) (fun _ hk => hk.2) (.slice Ao56 t326.length co56)) (fun _ h_ => h_.1))) hb); have n2_ := Aside0.mk (blk_below (g := gb322) (o := .cells #[.string t315, .string t316, .string t317, .slice Ao51 t318.length co51] 64 (0, 0)) (by (with_reducible repeat (first | refine blk_drewN ?_ _ | refine blk_drew ?_ | refine blk_alloc ?_ _)); refine blk_far ?_ NB322_330.out _; (with_reducible repeat (first | refine blk_drewN ?_ _ | refine blk_drew ?_ | refine blk_alloc ?_ _)); refine blk_far ?_ NB322_330.out _; (with_reducible repeat (first | refine blk_drewN ?_ _ | refine blk_drew ?_ | refine blk_alloc ?_ _)); refine blk_far ?_ NB322_330.out _; (with_reducible repeat (first | refine blk_drewN ?_ _ | refine blk_drew ?_ | refine blk_alloc ?_ _)); refine blk_far ?_ NB322_330.out _; (with_reducible repeat (first | refine blk_drewN ?_ _ | refine blk_drew ?_ | refine blk_alloc ?_ _)); exact BK322.out) hb); have n3_ := Aside0.mk (blk_below (g := gb330) (o := .cells #[.string t323, .string t324, .string t325, .slice Ao56 t326.length co56] 64 (0, 0)) (by (with_reducible repeat (first | refine blk_drewN ?_ _ | refine blk_drew ?_ | refine blk_alloc ?_ _)); refine blk_put (cs := #[.string t323, .string t324, .string t325, .slice none 0 0]) ?_ 3 _ rfl; (with_reducible repeat (first | refine blk_drewN ?_ _ | refine blk_drew ?_ | refine blk_alloc ?_ _)); refine blk_put (cs := #[.string t323, .string t324, .string (⟨#[]⟩ : ByteArray), .slice none 0 0]) ?_ 2 _ rfl; (with_reducible repeat (first | refine blk_drewN ?_ _ | refine blk_drew ?_ | refine blk_alloc ?_ _)); refine blk_put (cs := #[.string t323, .string (⟨#[]⟩ : ByteArray), .string (⟨#[]⟩ : ByteArray), .slice none 0 0]) ?_ 1 _ rfl; (with_reducible repeat (first | refine blk_drewN ?_ _ | refine blk_drew ?_ | refine blk_alloc ?_ _)); refine blk_put (cs := #[.string (⟨#[]⟩ : ByteArray), .string (⟨#[]⟩ : ByteArray), .string (⟨#[]⟩ : ByteArray), .slice none 0 0]) ?_ 0 _ rfl; (with_reducible repeat (first | refine blk_drewN ?_ _ | refine blk_drew ?_ | refine blk_alloc ?_ _)); exact BK330.out) hb); have n4_ := Aside0.mk (below_step (by repeat (first | (with_reducible first | exact HB.out | apply below_alloc | apply pw_below_drewN | apply below_drew1 | refine below_set ?_ GE322.out | refine below_set ?_ GE330.out) | exact HB.out)) hb); clear HO320; clear HO328; clear BK322; clear BK330; clear HB; have HO320 := n0_; have HO328 := n1_; have BK322 := n2_; have BK330 := n3_; have HB := n4_; clear n0_ n1_ n2_ n3_ n4_; (try clear hb); (try clear hb2); (try clear hk); (try clear hi); have hcz59_0 : w58.cell? ⟨gb322, 0, none⟩ = some (.string t315) := (blk_cell BK322.out 0).trans rfl; have hcz59_1 : w58.cell? ⟨gb322, 1, none⟩ = some (.string t316) := (blk_cell BK322.out 1).trans rfl; have hcz59_2 : w58.cell? ⟨gb322, 2, none⟩ = some (.string t317) := (blk_cell BK322.out 2).trans rfl; have hcz59_3 : w58.cell? ⟨gb322, 3, none⟩ = some (.slice Ao51 t318.length co51) := (blk_cell BK322.out 3).trans rfl; have hfz59_0 := blk_frozen BK322.out 0; have hfz59_1 := blk_frozen BK322.out 1; have hfz59_2 := blk_frozen BK322.out 2; have hfz59_3 := blk_frozen BK322.out 3; have hcz60_0 : w58.cell? ⟨gb330, 0, none⟩ = some (.string t323) := (blk_cell BK330.out 0).trans rfl; have hcz60_1 : w58.cell? ⟨gb330, 1, none⟩ = some (.string t324) := (blk_cell BK330.out 1).trans rfl; have hcz60_2 : w58.cell? ⟨gb330, 2, none⟩ = some (.string t325) := (blk_cell BK330.out 2).trans rfl; have hcz60_3 : w58.cell? ⟨gb330, 3, none⟩ = some (.slice Ao56 t326.length co56) := (blk_cell BK330.out 3).trans rfl; have hfz60_0 := blk_frozen BK330.out 0; have hfz60_1 := blk_frozen BK330.out 1; have hfz60_2 := blk_frozen BK330.out 2; have hfz60_3 := blk_frozen BK330.out 3) | ((with_reducible refine gate_callee (f := 52) rfl ?_); refine goesL_ (some 38) rfl rfl Tryd.func52 (by kernel_rfl) rfl #[.string t316, .string t324] rfl (by (try simp only [List.map_toArray, List.map_cons, List.map_nil]); first | done | rfl | (simp only [List.length_drop, List.length_take]; rfl)) ?_; (with_reducible refine (graftwoodref02_Cmp.calls k t316 t324 t332 _ A7.out).mono ?_); rintro e w61 ⟨rfl, hb⟩; refine ⟨_, rfl, ?_⟩; have n0_ := Aside0.mk (Kd.R_below (by (with_reducible repeat (first | apply Kd.R_alloc | apply Kd.R_drewN | apply Kd.R_drew)); exact HO320.out) hb); have n1_ := Aside0.mk (Kd.R_below (by (with_reducible repeat (first | apply Kd.R_alloc | apply Kd.R_drewN | apply Kd.R_drew)); exact HO328.out) hb); have n2_ := Aside0.mk (blk_below (g := gb322) (o := .cells #[.string t315, .string t316, .string t317, .slice Ao51 t318.length co51] 64 (0, 0)) (by (with_reducible repeat (first | refine blk_drewN ?_ _ | refine blk_drew ?_ | refine blk_alloc ?_ _)); exact BK322.out) hb); have n3_ := Aside0.mk (blk_below (g := gb330) (o := .cells #[.string t323, .string t324, .string t325, .slice Ao56 t326.length co56] 64 (0, 0)) (by (with_reducible repeat (first | refine blk_drewN ?_ _ | refine blk_drew ?_ | refine blk_alloc ?_ _)); exact BK330.out) hb); have n4_ := Aside0.mk (below_step (by repeat (first | (with_reducible first | exact HB.out | apply below_alloc | apply pw_below_drewN | apply below_drew1 | refine below_set ?_ GE322.out | refine below_set ?_ GE330.out) | exact HB.out)) hb); clear HO320; clear HO328; clear BK322; clear BK330; clear HB; have HO320 := n0_; have HO328 := n1_; have BK322 := n2_; have BK330 := n3_; have HB := n4_; clear n0_ n1_ n2_ n3_ n4_; (try clear hb); (try clear hb2); (try clear hk); (try clear hi); have hcz62_0 : w61.cell? ⟨gb322, 0, none⟩ = some (.string t315) := (blk_cell BK322.out 0).trans rfl; have hcz62_1 : w61.cell? ⟨gb322, 1, none⟩ = some (.string t316) := (blk_cell BK322.out 1).trans rfl; have hcz62_2 : w61.cell? ⟨gb322, 2, none⟩ = some (.string t317) := (blk_cell BK322.out 2).trans rfl; have hcz62_3 : w61.cell? ⟨gb322, 3, none⟩ = some (.slice Ao51 t318.length co51) := (blk_cell BK322.out 3).trans rfl; have hfz62_0 := blk_frozen BK322.out 0; have hfz62_1 := blk_frozen BK322.out 1; have hfz62_2 := blk_frozen BK322.out 2; have hfz62_3 := blk_frozen BK322.out 3; have hcz63_0 : w61.cell? ⟨gb330, 0, none⟩ = some (.string t323) := (blk_cell BK330.out 0).trans rfl; have hcz63_1 : w61.cell? ⟨gb330, 1, none⟩ = some (.string t324) := (blk_cell BK330.out 1).trans rfl; have hcz63_2 : w61.cell? ⟨gb330, 2, none⟩ = some (.string t325) := (blk_cell BK330.out 2).trans rfl; have hcz63_3 : w61.cell? ⟨gb330, 3, none⟩ = some (.slice Ao56 t326.length co56) := (blk_cell BK330.out 3).trans rfl; have hfz63_0 := blk_frozen BK330.out 0; have hfz63_1 := blk_frozen BK330.out 1; have hfz63_2 := blk_frozen BK330.out 2; have hfz63_3 := blk_frozen BK330.out 3) | ((with_reducible refine gate_callee (f := 52) rfl ?_); refine goesL_ (some 46) rfl rfl Tryd.func52 (by kernel_rfl) rfl #[.string t317, .string t325] rfl (by (try simp only [List.map_toArray, List.map_cons, List.map_nil]); first | done | rfl | (simp only [List.length_drop, List.length_take]; rfl)) ?_; (with_reducible refine (graftwoodref02_Cmp.calls k t317 t325 t333 _ A9.out).mono ?_); rintro e w64 ⟨rfl, hb⟩; refine ⟨_, rfl, ?_⟩; have n0_ := Aside0.mk (Kd.R_below (by (with_reducible repeat (first | apply Kd.R_alloc | apply Kd.R_drewN | apply Kd.R_drew)); exact HO320.out) hb); have n1_ := Aside0.mk (Kd.R_below (by (with_reducible repeat (first | apply Kd.R_alloc | apply Kd.R_drewN | apply Kd.R_drew)); exact HO328.out) hb); have n2_ := Aside0.mk (blk_below (g := gb322) (o := .cells #[.string t315, .string t316, .string t317, .slice Ao51 t318.length co51] 64 (0, 0)) (by (with_reducible repeat (first | refine blk_drewN ?_ _ | refine blk_drew ?_ | refine blk_alloc ?_ _)); exact BK322.out) hb); have n3_ := Aside0.mk (blk_below (g := gb330) (o := .cells #[.string t323, .string t324, .string t325, .slice Ao56 t326.length co56] 64 (0, 0)) (by (with_reducible repeat (first | refine blk_drewN ?_ _ | refine blk_drew ?_ | refine blk_alloc ?_ _)); exact BK330.out) hb); have n4_ := Aside0.mk (below_step (by repeat (first | (with_reducible first | exact HB.out | apply below_alloc | apply pw_below_drewN | apply below_drew1 | refine below_set ?_ GE322.out | refine below_set ?_ GE330.out) | exact HB.out)) hb); clear HO320; clear HO328; clear BK322; clear BK330; clear HB; have HO320 := n0_; have HO328 := n1_; have BK322 := n2_; have BK330 := n3_; have HB := n4_; clear n0_ n1_ n2_ n3_ n4_; (try clear hb); (try clear hb2); (try clear hk); (try clear hi)))
    go_ret
    exact ⟨by first | rfl | (simp [errW_none, errW_some] <;> rfl) | (simp [*, errW_none, errW_some] <;> rfl), by repeat (first | (with_reducible first | exact HB.out | apply below_alloc | apply pw_below_drewN | apply below_drew1 | refine below_set ?_ GE322.out | refine below_set ?_ GE330.out) | exact HB.out)⟩
  ·rw [if_neg c8] at H
   have c8b0 : (t332 == 0) = false := beq_eq_false_iff_ne.mpr c8
   have c8b1 : (t332 != 0) = true := bne_iff_ne.mpr c8
   obtain rfl := Option.some.inj H
   go_enter Tryd.func44, Tryd.ntmps44
   go_wp2_with (first | ((with_reducible refine gate_callee (f := 36) rfl ?_); refine goesL_ (some 18) rfl rfl Tryd.func36 (by kernel_rfl) rfl #[.string a0] rfl (by (try simp only [List.map_toArray, List.map_cons, List.map_nil]); first | done | rfl | (simp only [List.length_drop, List.length_take]; rfl)) ?_; (with_reducible refine (graftwoodref03_Split.calls k a0 t315 t316 t317 t318 t321 _ A3.out).mono ?_); rintro e w65 ⟨v319, rfl, ho0, hb⟩; refine ⟨_, rfl, ?_⟩; have n0_ := Aside0.mk (Kd.R_lower ho0 (below_size (by repeat (first | (with_reducible first | exact HB.out | apply below_alloc | apply pw_below_drewN | apply below_drew1) | exact HB.out)))); have n1_ := Aside0.mk (below_step (by repeat (first | (with_reducible first | exact HB.out | apply below_alloc | apply pw_below_drewN | apply below_drew1) | exact HB.out)) hb); clear HB; have HO320 := n0_; have HB := n1_; clear n0_ n1_; (try clear hb); (try clear hb2); (try clear hk); (try clear hi); (try clear ho0)) | ((with_reducible refine gate_dst (N := 5) rfl ?_); refine box_event ?hg (N := 5) ?hd (cs := #[.string (⟨#[]⟩ : ByteArray), .string (⟨#[]⟩ : ByteArray), .string (⟨#[]⟩ : ByteArray), .slice none 0 0]) (t := 64) ?hr ?_; (case hd => rfl); (case hg => rfl); (case hr => first | (go_simp; done) | (go_simp; rfl)); intro gb322 hg w66 hbox hb; have n0_ := Aside0.mk (Kd.R_below (by (with_reducible repeat (first | apply Kd.R_alloc | apply Kd.R_drewN | apply Kd.R_drew)); exact HO320.out) hb); have n1_ := Aside0.mk (below_step (by repeat (first | (with_reducible first | exact HB.out | apply below_alloc | apply pw_below_drewN | apply below_drew1) | exact HB.out)) hb); have n2_ := Aside0.mk (hbox); have n3_ := Aside0.mk ((by rw [hg]; exact (below_size (by repeat (first | (with_reducible first | exact HB.out | apply below_alloc | apply pw_below_drewN | apply below_drew1) | exact HB.out))) : w.heap.size ≤ gb322)); have n4_ := Aside0.mk ((by rw [hg]; exact (below_size (by repeat (first | (with_reducible first | exact HB.out | apply below_alloc | apply pw_below_drewN | apply below_drew1) | exact HB.out))) : w.heap.size ≤ gb322)); clear HO320; clear HB; have HO320 := n0_; have HB := n1_; have BK322 := n2_; have GW322 := n3_; have GE322 := n4_; clear n0_ n1_ n2_ n3_ n4_; clear hb hbox hg; have hcz67_0 : w66.cell? ⟨gb322, 0, none⟩ = some (.string (⟨#[]⟩ : ByteArray)) := (blk_cell BK322.out 0).trans rfl; have hcz67_1 : w66.cell? ⟨gb322, 1, none⟩ = some (.string (⟨#[]⟩ : ByteArray)) := (blk_cell BK322.out 1).trans rfl; have hcz67_2 : w66.cell? ⟨gb322, 2, none⟩ = some (.string (⟨#[]⟩ : ByteArray)) := (blk_cell BK322.out 2).trans rfl; have hcz67_3 : w66.cell? ⟨gb322, 3, none⟩ = some (.slice none 0 0) := (blk_cell BK322.out 3).trans rfl; have hfz67_0 := blk_frozen BK322.out 0; have hfz67_1 := blk_frozen BK322.out 1; have hfz67_2 := blk_frozen BK322.out 2; have hfz67_3 := blk_frozen BK322.out 3; obtain ⟨Ao68, co68, eo68⟩ := Kd.R_slice HO320.out; subst eo68) | ((with_reducible refine gate_callee (f := 36) rfl ?_); refine goesL_ (some 23) rfl rfl Tryd.func36 (by kernel_rfl) rfl #[.string a1] rfl (by (try simp only [List.map_toArray, List.map_cons, List.map_nil]); first | done | rfl | (simp only [List.length_drop, List.length_take]; rfl)) ?_; (with_reducible refine (graftwoodref03_Split.calls k a1 t323 t324 t325 t326 t329 _ A4.out).mono ?_); rintro e w69 ⟨v327, rfl, ho0, hb⟩; refine ⟨_, rfl, ?_⟩; have n0_ := Aside0.mk (Kd.R_elder' (by (with_reducible repeat (first | apply Kd.R_alloc | apply Kd.R_drewN | apply Kd.R_drew)); exact (Kd.R_mono (Kd.R_far (p := ⟨gb322, 3, none⟩) (Kd.R_far (p := ⟨gb322, 2, none⟩) (Kd.R_far (p := ⟨gb322, 1, none⟩) (Kd.R_far (p := ⟨gb322, 0, none⟩) (Kd.R_types HO320.out BK322.out (by decide)) (fun _ hk => hk.2) (.string t315)) (fun _ hk => hk.2) (.string t316)) (fun _ hk => hk.2) (.string t317)) (fun _ hk => hk.2) (.slice Ao68 t318.length co68)) (fun _ h_ => h_.1))) (Kd.R_base ho0) hb); have n1_ := Aside0.mk (Kd.R_lower (Kd.R_new' ho0 (Kd.R_lt (by (with_reducible repeat (first | apply Kd.R_alloc | apply Kd.R_drewN | apply Kd.R_drew)); exact (Kd.R_mono (Kd.R_far (p := ⟨gb322, 3, none⟩) (Kd.R_far (p := ⟨gb322, 2, none⟩) (Kd.R_far (p := ⟨gb322, 1, none⟩) (Kd.R_far (p := ⟨gb322, 0, none⟩) (Kd.R_types HO320.out BK322.out (by decide)) (fun _ hk => hk.2) (.string t315)) (fun _ hk => hk.2) (.string t316)) (fun _ hk => hk.2) (.string t317)) (fun _ hk => hk.2) (.slice Ao68 t318.length co68)) (fun _ h_ => h_.1))))) (below_size (by repeat (first | (with_reducible first | exact HB.out | apply below_alloc | apply pw_below_drewN | apply below_drew1 | refine below_set ?_ GE322.out) | exact HB.out)))); have n2_ := Aside0.mk (blk_below (g := gb322) (o := .cells #[.string t315, .string t316, .string t317, .slice Ao68 t318.length co68] 64 (0, 0)) (by (with_reducible repeat (first | refine blk_drewN ?_ _ | refine blk_drew ?_ | refine blk_alloc ?_ _)); refine blk_put (cs := #[.string t315, .string t316, .string t317, .slice none 0 0]) ?_ 3 _ rfl; (with_reducible repeat (first | refine blk_drewN ?_ _ | refine blk_drew ?_ | refine blk_alloc ?_ _)); refine blk_put (cs := #[.string t315, .string t316, .string (⟨#[]⟩ : ByteArray), .slice none 0 0]) ?_ 2 _ rfl; (with_reducible repeat (first | refine blk_drewN ?_ _ | refine blk_drew ?_ | refine blk_alloc ?_ _)); refine blk_put (cs := #[.string t315, .string (⟨#[]⟩ : ByteArray), .string (⟨#[]⟩ : ByteArray), .slice none 0 0]) ?_ 1 _ rfl; (with_reducible repeat (first | refine blk_drewN ?_ _ | refine blk_drew ?_ | refine blk_alloc ?_ _)); refine blk_put (cs := #[.string (⟨#[]⟩ : ByteArray), .string (⟨#[]⟩ : ByteArray), .string (⟨#[]⟩ : ByteArray), .slice none 0 0]) ?_ 0 _ rfl; (with_reducible repeat (first | refine blk_drewN ?_ _ | refine blk_drew ?_ | refine blk_alloc ?_ _)); exact BK322.out) hb); have n3_ := Aside0.mk (below_step (by repeat (first | (with_reducible first | exact HB.out | apply below_alloc | apply pw_below_drewN | apply below_drew1 | refine below_set ?_ GE322.out) | exact HB.out)) hb); clear HO320; clear BK322; clear HB; have HO320 := n0_; have HO328 := n1_; have BK322 := n2_; have HB := n3_; clear n0_ n1_ n2_ n3_; (try clear hb); (try clear hb2); (try clear hk); (try clear hi); (try clear ho0)) | ((with_reducible refine gate_dst (N := 7) rfl ?_); refine box_event ?hg (N := 7) ?hd (cs := #[.string (⟨#[]⟩ : ByteArray), .string (⟨#[]⟩ : ByteArray), .string (⟨#[]⟩ : ByteArray), .slice none 0 0]) (t := 64) ?hr ?_; (case hd => rfl); (case hg => rfl); (case hr => first | (go_simp; done) | (go_simp; rfl)); intro gb330 hg w70 hbox hb; have n0_ := Aside0.mk (Kd.R_below (by (with_reducible repeat (first | apply Kd.R_alloc | apply Kd.R_drewN | apply Kd.R_drew)); exact HO320.out) hb); have n1_ := Aside0.mk (Kd.R_below (by (with_reducible repeat (first | apply Kd.R_alloc | apply Kd.R_drewN | apply Kd.R_drew)); exact HO328.out) hb); have n2_ := Aside0.mk (blk_below (g := gb322) (o := .cells #[.string t315, .string t316, .string t317, .slice Ao68 t318.length co68] 64 (0, 0)) (by (with_reducible repeat (first | refine blk_drewN ?_ _ | refine blk_drew ?_ | refine blk_alloc ?_ _)); exact BK322.out) hb); have n3_ := Aside0.mk (below_step (by repeat (first | (with_reducible first | exact HB.out | apply below_alloc | apply pw_below_drewN | apply below_drew1 | refine below_set ?_ GE322.out) | exact HB.out)) hb); have n4_ := Aside0.mk (hbox); have n5_ := Aside0.mk ((by rw [hg]; exact (below_size (by repeat (first | (with_reducible first | exact HB.out | apply below_alloc | apply pw_below_drewN | apply below_drew1 | refine below_set ?_ GE322.out) | exact HB.out))) : w.heap.size ≤ gb330)); have n6_ := Aside0.mk ((by rw [hg]; exact (below_size (by repeat (first | (with_reducible first | exact HB.out | apply below_alloc | apply pw_below_drewN | apply below_drew1 | refine below_set ?_ GE322.out) | exact HB.out))) : w.heap.size ≤ gb330)); have n7_ := Aside0.mk ((by rw [hg]; exact Nat.ne_of_lt (blk_lt (g := gb322) (o := .cells #[.string t315, .string t316, .string t317, .slice Ao68 t318.length co68] 64 (0, 0)) (by (with_reducible repeat (first | refine blk_drewN ?_ _ | refine blk_drew ?_ | refine blk_alloc ?_ _)); exact BK322.out)) : gb322 ≠ gb330)); have n8_ := Aside0.mk ((by rw [hg]; exact Nat.ne_of_gt (blk_lt (g := gb322) (o := .cells #[.string t315, .string t316, .string t317, .slice Ao68 t318.length co68] 64 (0, 0)) (by (with_reducible repeat (first | refine blk_drewN ?_ _ | refine blk_drew ?_ | refine blk_alloc ?_ _)); exact BK322.out)) : gb330 ≠ gb322)); clear HO320; clear HO328; clear BK322; clear HB; have HO320 := n0_; have HO328 := n1_; have BK322 := n2_; have HB := n3_; have BK330 := n4_; have GW330 := n5_; have GE330 := n6_; have NB322_330 := n7_; have NB330_322 := n8_; clear n0_ n1_ n2_ n3_ n4_ n5_ n6_ n7_ n8_; clear hb hbox hg; have hnb71 := NB330_322.out; have hnc71 := NB322_330.out; have hcz72_0 : w70.cell? ⟨gb330, 0, none⟩ = some (.string (⟨#[]⟩ : ByteArray)) := (blk_cell BK330.out 0).trans rfl; have hcz72_1 : w70.cell? ⟨gb330, 1, none⟩ = some (.string (⟨#[]⟩ : ByteArray)) := (blk_cell BK330.out 1).trans rfl; have hcz72_2 : w70.cell? ⟨gb330, 2, none⟩ = some (.string (⟨#[]⟩ : ByteArray)) := (blk_cell BK330.out 2).trans rfl; have hcz72_3 : w70.cell? ⟨gb330, 3, none⟩ = some (.slice none 0 0) := (blk_cell BK330.out 3).trans rfl; have hfz72_0 := blk_frozen BK330.out 0; have hfz72_1 := blk_frozen BK330.out 1; have hfz72_2 := blk_frozen BK330.out 2; have hfz72_3 := blk_frozen BK330.out 3; obtain ⟨Ao73, co73, eo73⟩ := Kd.R_slice HO328.out; subst eo73; have hcz74_0 : w70.cell? ⟨gb322, 0, none⟩ = some (.string t315) := (blk_cell BK322.out 0).trans rfl; have hcz74_1 : w70.cell? ⟨gb322, 1, none⟩ = some (.string t316) := (blk_cell BK322.out 1).trans rfl; have hcz74_2 : w70.cell? ⟨gb322, 2, none⟩ = some (.string t317) := (blk_cell BK322.out 2).trans rfl; have hcz74_3 : w70.cell? ⟨gb322, 3, none⟩ = some (.slice Ao68 t318.length co68) := (blk_cell BK322.out 3).trans rfl; have hfz74_0 := blk_frozen BK322.out 0; have hfz74_1 := blk_frozen BK322.out 1; have hfz74_2 := blk_frozen BK322.out 2; have hfz74_3 := blk_frozen BK322.out 3) | ((with_reducible refine gate_callee (f := 52) rfl ?_); refine goesL_ (some 30) rfl rfl Tryd.func52 (by kernel_rfl) rfl #[.string t315, .string t323] rfl (by (try simp only [List.map_toArray, List.map_cons, List.map_nil]); first | done | rfl | (simp only [List.length_drop, List.length_take]; rfl)) ?_; (with_reducible refine (graftwoodref02_Cmp.calls k t315 t323 t331 _ A5.out).mono ?_); rintro e w75 ⟨rfl, hb⟩; refine ⟨_, rfl, ?_⟩; have n0_ := Aside0.mk (Kd.R_below (by (with_reducible repeat (first | apply Kd.R_alloc | apply Kd.R_drewN | apply Kd.R_drew)); exact (Kd.R_mono (Kd.R_far (p := ⟨gb330, 3, none⟩) (Kd.R_far (p := ⟨gb330, 2, none⟩) (Kd.R_far (p := ⟨gb330, 1, none⟩) (Kd.R_far (p := ⟨gb330, 0, none⟩) (Kd.R_types HO320.out BK330.out (by decide)) (fun _ hk => hk.2) (.string t323)) (fun _ hk => hk.2) (.string t324)) (fun _ hk => hk.2) (.string t325)) (fun _ hk => hk.2) (.slice Ao73 t326.length co73)) (fun _ h_ => h_.1))) hb); have n1_ := Aside0.mk (Kd.R_below (by (with_reducible repeat (first | apply Kd.R_alloc | apply Kd.R_drewN | apply Kd.R_drew)); exact (Kd.R_mono (Kd.R_far (p := ⟨gb330, 3, none⟩) (Kd.R_far (p := ⟨gb330, 2, none⟩) (Kd.R_far (p := ⟨gb330, 1, none⟩) (Kd.R_far (p := ⟨gb330, 0, none⟩) (Kd.R_types HO328.out BK330.out (by decide)) (fun _ hk => hk.2) (.string t323)) (fun _ hk => hk.2) (.string t324)) (fun _ hk => hk.2) (.string t325)) (fun _ hk => hk.2) (.slice Ao73 t326.length co73)) (fun _ h_ => h_.1))) hb); have n2_ := Aside0.mk (blk_below (g := gb322) (o := .cells #[.string t315, .string t316, .string t317, .slice Ao68 t318.length co68] 64 (0, 0)) (by (with_reducible repeat (first | refine blk_drewN ?_ _ | refine blk_drew ?_ | refine blk_alloc ?_ _)); refine blk_far ?_ NB322_330.out _; (with_reducible repeat (first | refine blk_drewN ?_ _ | refine blk_drew ?_ | refine blk_alloc ?_ _)); refine blk_far ?_ NB322_330.out _; (with_reducible repeat (first | refine blk_drewN ?_ _ | refine blk_drew ?_ | refine blk_alloc ?_ _)); refine blk_far ?_ NB322_330.out _; (with_reducible repeat (first | refine blk_drewN ?_ _ | refine blk_drew ?_ | refine blk_alloc ?_ _)); refine blk_far ?_ NB322_330.out _; (with_reducible repeat (first | refine blk_drewN ?_ _ | refine blk_drew ?_ | refine blk_alloc ?_ _)); exact BK322.out) hb); have n3_ := Aside0.mk (blk_below (g := gb330) (o := .cells #[.string t323, .string t324, .string t325, .slice Ao73 t326.length co73] 64 (0, 0)) (by (with_reducible repeat (first | refine blk_drewN ?_ _ | refine blk_drew ?_ | refine blk_alloc ?_ _)); refine blk_put (cs := #[.string t323, .string t324, .string t325, .slice none 0 0]) ?_ 3 _ rfl; (with_reducible repeat (first | refine blk_drewN ?_ _ | refine blk_drew ?_ | refine blk_alloc ?_ _)); refine blk_put (cs := #[.string t323, .string t324, .string (⟨#[]⟩ : ByteArray), .slice none 0 0]) ?_ 2 _ rfl; (with_reducible repeat (first | refine blk_drewN ?_ _ | refine blk_drew ?_ | refine blk_alloc ?_ _)); refine blk_put (cs := #[.string t323, .string (⟨#[]⟩ : ByteArray), .string (⟨#[]⟩ : ByteArray), .slice none 0 0]) ?_ 1 _ rfl; (with_reducible repeat (first | refine blk_drewN ?_ _ | refine blk_drew ?_ | refine blk_alloc ?_ _)); refine blk_put (cs := #[.string (⟨#[]⟩ : ByteArray), .string (⟨#[]⟩ : ByteArray), .string (⟨#[]⟩ : ByteArray), .slice none 0 0]) ?_ 0 _ rfl; (with_reducible repeat (first | refine blk_drewN ?_ _ | refine blk_drew ?_ | refine blk_alloc ?_ _)); exact BK330.out) hb); have n4_ := Aside0.mk (below_step (by repeat (first | (with_reducible first | exact HB.out | apply below_alloc | apply pw_below_drewN | apply below_drew1 | refine below_set ?_ GE322.out | refine below_set ?_ GE330.out) | exact HB.out)) hb); clear HO320; clear HO328; clear BK322; clear BK330; clear HB; have HO320 := n0_; have HO328 := n1_; have BK322 := n2_; have BK330 := n3_; have HB := n4_; clear n0_ n1_ n2_ n3_ n4_; (try clear hb); (try clear hb2); (try clear hk); (try clear hi); have hcz76_0 : w75.cell? ⟨gb322, 0, none⟩ = some (.string t315) := (blk_cell BK322.out 0).trans rfl; have hcz76_1 : w75.cell? ⟨gb322, 1, none⟩ = some (.string t316) := (blk_cell BK322.out 1).trans rfl; have hcz76_2 : w75.cell? ⟨gb322, 2, none⟩ = some (.string t317) := (blk_cell BK322.out 2).trans rfl; have hcz76_3 : w75.cell? ⟨gb322, 3, none⟩ = some (.slice Ao68 t318.length co68) := (blk_cell BK322.out 3).trans rfl; have hfz76_0 := blk_frozen BK322.out 0; have hfz76_1 := blk_frozen BK322.out 1; have hfz76_2 := blk_frozen BK322.out 2; have hfz76_3 := blk_frozen BK322.out 3; have hcz77_0 : w75.cell? ⟨gb330, 0, none⟩ = some (.string t323) := (blk_cell BK330.out 0).trans rfl; have hcz77_1 : w75.cell? ⟨gb330, 1, none⟩ = some (.string t324) := (blk_cell BK330.out 1).trans rfl; have hcz77_2 : w75.cell? ⟨gb330, 2, none⟩ = some (.string t325) := (blk_cell BK330.out 2).trans rfl; have hcz77_3 : w75.cell? ⟨gb330, 3, none⟩ = some (.slice Ao73 t326.length co73) := (blk_cell BK330.out 3).trans rfl; have hfz77_0 := blk_frozen BK330.out 0; have hfz77_1 := blk_frozen BK330.out 1; have hfz77_2 := blk_frozen BK330.out 2; have hfz77_3 := blk_frozen BK330.out 3) | ((with_reducible refine gate_callee (f := 52) rfl ?_); refine goesL_ (some 38) rfl rfl Tryd.func52 (by kernel_rfl) rfl #[.string t316, .string t324] rfl (by (try simp only [List.map_toArray, List.map_cons, List.map_nil]); first | done | rfl | (simp only [List.length_drop, List.length_take]; rfl)) ?_; (with_reducible refine (graftwoodref02_Cmp.calls k t316 t324 t332 _ A7.out).mono ?_); rintro e w78 ⟨rfl, hb⟩; refine ⟨_, rfl, ?_⟩; have n0_ := Aside0.mk (Kd.R_below (by (with_reducible repeat (first | apply Kd.R_alloc | apply Kd.R_drewN | apply Kd.R_drew)); exact HO320.out) hb); have n1_ := Aside0.mk (Kd.R_below (by (with_reducible repeat (first | apply Kd.R_alloc | apply Kd.R_drewN | apply Kd.R_drew)); exact HO328.out) hb); have n2_ := Aside0.mk (blk_below (g := gb322) (o := .cells #[.string t315, .string t316, .string t317, .slice Ao68 t318.length co68] 64 (0, 0)) (by (with_reducible repeat (first | refine blk_drewN ?_ _ | refine blk_drew ?_ | refine blk_alloc ?_ _)); exact BK322.out) hb); have n3_ := Aside0.mk (blk_below (g := gb330) (o := .cells #[.string t323, .string t324, .string t325, .slice Ao73 t326.length co73] 64 (0, 0)) (by (with_reducible repeat (first | refine blk_drewN ?_ _ | refine blk_drew ?_ | refine blk_alloc ?_ _)); exact BK330.out) hb); have n4_ := Aside0.mk (below_step (by repeat (first | (with_reducible first | exact HB.out | apply below_alloc | apply pw_below_drewN | apply below_drew1 | refine below_set ?_ GE322.out | refine below_set ?_ GE330.out) | exact HB.out)) hb); clear HO320; clear HO328; clear BK322; clear BK330; clear HB; have HO320 := n0_; have HO328 := n1_; have BK322 := n2_; have BK330 := n3_; have HB := n4_; clear n0_ n1_ n2_ n3_ n4_; (try clear hb); (try clear hb2); (try clear hk); (try clear hi)))
   go_ret
   exact ⟨by first | rfl | (simp [errW_none, errW_some] <;> rfl) | (simp [*, errW_none, errW_some] <;> rfl), by repeat (first | (with_reducible first | exact HB.out | apply below_alloc | apply pw_below_drewN | apply below_drew1 | refine below_set ?_ GE322.out | refine below_set ?_ GE330.out) | exact HB.out)⟩
 ·rw [if_neg c6] at H
  have c6b0 : (t331 == 0) = false := beq_eq_false_iff_ne.mpr c6
  have c6b1 : (t331 != 0) = true := bne_iff_ne.mpr c6
  obtain rfl := Option.some.inj H
  go_enter Tryd.func44, Tryd.ntmps44
  go_wp2_with (first | ((with_reducible refine gate_callee (f := 36) rfl ?_); refine goesL_ (some 18) rfl rfl Tryd.func36 (by kernel_rfl) rfl #[.string a0] rfl (by (try simp only [List.map_toArray, List.map_cons, List.map_nil]); first | done | rfl | (simp only [List.length_drop, List.length_take]; rfl)) ?_; (with_reducible refine (graftwoodref03_Split.calls k a0 t315 t316 t317 t318 t321 _ A3.out).mono ?_); rintro e w79 ⟨v319, rfl, ho0, hb⟩; refine ⟨_, rfl, ?_⟩; have n0_ := Aside0.mk (Kd.R_lower ho0 (below_size (by repeat (first | (with_reducible first | exact HB.out | apply below_alloc | apply pw_below_drewN | apply below_drew1) | exact HB.out)))); have n1_ := Aside0.mk (below_step (by repeat (first | (with_reducible first | exact HB.out | apply below_alloc | apply pw_below_drewN | apply below_drew1) | exact HB.out)) hb); clear HB; have HO320 := n0_; have HB := n1_; clear n0_ n1_; (try clear hb); (try clear hb2); (try clear hk); (try clear hi); (try clear ho0)) | ((with_reducible refine gate_dst (N := 5) rfl ?_); refine box_event ?hg (N := 5) ?hd (cs := #[.string (⟨#[]⟩ : ByteArray), .string (⟨#[]⟩ : ByteArray), .string (⟨#[]⟩ : ByteArray), .slice none 0 0]) (t := 64) ?hr ?_; (case hd => rfl); (case hg => rfl); (case hr => first | (go_simp; done) | (go_simp; rfl)); intro gb322 hg w80 hbox hb; have n0_ := Aside0.mk (Kd.R_below (by (with_reducible repeat (first | apply Kd.R_alloc | apply Kd.R_drewN | apply Kd.R_drew)); exact HO320.out) hb); have n1_ := Aside0.mk (below_step (by repeat (first | (with_reducible first | exact HB.out | apply below_alloc | apply pw_below_drewN | apply below_drew1) | exact HB.out)) hb); have n2_ := Aside0.mk (hbox); have n3_ := Aside0.mk ((by rw [hg]; exact (below_size (by repeat (first | (with_reducible first | exact HB.out | apply below_alloc | apply pw_below_drewN | apply below_drew1) | exact HB.out))) : w.heap.size ≤ gb322)); have n4_ := Aside0.mk ((by rw [hg]; exact (below_size (by repeat (first | (with_reducible first | exact HB.out | apply below_alloc | apply pw_below_drewN | apply below_drew1) | exact HB.out))) : w.heap.size ≤ gb322)); clear HO320; clear HB; have HO320 := n0_; have HB := n1_; have BK322 := n2_; have GW322 := n3_; have GE322 := n4_; clear n0_ n1_ n2_ n3_ n4_; clear hb hbox hg; have hcz81_0 : w80.cell? ⟨gb322, 0, none⟩ = some (.string (⟨#[]⟩ : ByteArray)) := (blk_cell BK322.out 0).trans rfl; have hcz81_1 : w80.cell? ⟨gb322, 1, none⟩ = some (.string (⟨#[]⟩ : ByteArray)) := (blk_cell BK322.out 1).trans rfl; have hcz81_2 : w80.cell? ⟨gb322, 2, none⟩ = some (.string (⟨#[]⟩ : ByteArray)) := (blk_cell BK322.out 2).trans rfl; have hcz81_3 : w80.cell? ⟨gb322, 3, none⟩ = some (.slice none 0 0) := (blk_cell BK322.out 3).trans rfl; have hfz81_0 := blk_frozen BK322.out 0; have hfz81_1 := blk_frozen BK322.out 1; have hfz81_2 := blk_frozen BK322.out 2; have hfz81_3 := blk_frozen BK322.out 3; obtain ⟨Ao82, co82, eo82⟩ := Kd.R_slice HO320.out; subst eo82) | ((with_reducible refine gate_callee (f := 36) rfl ?_); refine goesL_ (some 23) rfl rfl Tryd.func36 (by kernel_rfl) rfl #[.string a1] rfl (by (try simp only [List.map_toArray, List.map_cons, List.map_nil]); first | done | rfl | (simp only [List.length_drop, List.length_take]; rfl)) ?_; (with_reducible refine (graftwoodref03_Split.calls k a1 t323 t324 t325 t326 t329 _ A4.out).mono ?_); rintro e w83 ⟨v327, rfl, ho0, hb⟩; refine ⟨_, rfl, ?_⟩; have n0_ := Aside0.mk (Kd.R_elder' (by (with_reducible repeat (first | apply Kd.R_alloc | apply Kd.R_drewN | apply Kd.R_drew)); exact (Kd.R_mono (Kd.R_far (p := ⟨gb322, 3, none⟩) (Kd.R_far (p := ⟨gb322, 2, none⟩) (Kd.R_far (p := ⟨gb322, 1, none⟩) (Kd.R_far (p := ⟨gb322, 0, none⟩) (Kd.R_types HO320.out BK322.out (by decide)) (fun _ hk => hk.2) (.string t315)) (fun _ hk => hk.2) (.string t316)) (fun _ hk => hk.2) (.string t317)) (fun _ hk => hk.2) (.slice Ao82 t318.length co82)) (fun _ h_ => h_.1))) (Kd.R_base ho0) hb); have n1_ := Aside0.mk (Kd.R_lower (Kd.R_new' ho0 (Kd.R_lt (by (with_reducible repeat (first | apply Kd.R_alloc | apply Kd.R_drewN | apply Kd.R_drew)); exact (Kd.R_mono (Kd.R_far (p := ⟨gb322, 3, none⟩) (Kd.R_far (p := ⟨gb322, 2, none⟩) (Kd.R_far (p := ⟨gb322, 1, none⟩) (Kd.R_far (p := ⟨gb322, 0, none⟩) (Kd.R_types HO320.out BK322.out (by decide)) (fun _ hk => hk.2) (.string t315)) (fun _ hk => hk.2) (.string t316)) (fun _ hk => hk.2) (.string t317)) (fun _ hk => hk.2) (.slice Ao82 t318.length co82)) (fun _ h_ => h_.1))))) (below_size (by repeat (first | (with_reducible first | exact HB.out | apply below_alloc | apply pw_below_drewN | apply below_drew1 | refine below_set ?_ GE322.out) | exact HB.out)))); have n2_ := Aside0.mk (blk_below (g := gb322) (o := .cells #[.string t315, .string t316, .string t317, .slice Ao82 t318.length co82] 64 (0, 0)) (by (with_reducible repeat (first | refine blk_drewN ?_ _ | refine blk_drew ?_ | refine blk_alloc ?_ _)); refine blk_put (cs := #[.string t315, .string t316, .string t317, .slice none 0 0]) ?_ 3 _ rfl; (with_reducible repeat (first | refine blk_drewN ?_ _ | refine blk_drew ?_ | refine blk_alloc ?_ _)); refine blk_put (cs := #[.string t315, .string t316, .string (⟨#[]⟩ : ByteArray), .slice none 0 0]) ?_ 2 _ rfl; (with_reducible repeat (first | refine blk_drewN ?_ _ | refine blk_drew ?_ | refine blk_alloc ?_ _)); refine blk_put (cs := #[.string t315, .string (⟨#[]⟩ : ByteArray), .string (⟨#[]⟩ : ByteArray), .slice none 0 0]) ?_ 1 _ rfl; (with_reducible repeat (first | refine blk_drewN ?_ _ | refine blk_drew ?_ | refine blk_alloc ?_ _)); refine blk_put (cs := #[.string (⟨#[]⟩ : ByteArray), .string (⟨#[]⟩ : ByteArray), .string (⟨#[]⟩ : ByteArray), .slice none 0 0]) ?_ 0 _ rfl; (with_reducible repeat (first | refine blk_drewN ?_ _ | refine blk_drew ?_ | refine blk_alloc ?_ _)); exact BK322.out) hb); have n3_ := Aside0.mk (below_step (by repeat (first | (with_reducible first | exact HB.out | apply below_alloc | apply pw_below_drewN | apply below_drew1 | refine below_set ?_ GE322.out) | exact HB.out)) hb); clear HO320; clear BK322; clear HB; have HO320 := n0_; have HO328 := n1_; have BK322 := n2_; have HB := n3_; clear n0_ n1_ n2_ n3_; (try clear hb); (try clear hb2); (try clear hk); (try clear hi); (try clear ho0)) | ((with_reducible refine gate_dst (N := 7) rfl ?_); refine box_event ?hg (N := 7) ?hd (cs := #[.string (⟨#[]⟩ : ByteArray), .string (⟨#[]⟩ : ByteArray), .string (⟨#[]⟩ : ByteArray), .slice none 0 0]) (t := 64) ?hr ?_; (case hd => rfl); (case hg => rfl); (case hr => first | (go_simp; done) | (go_simp; rfl)); intro gb330 hg w84 hbox hb; have n0_ := Aside0.mk (Kd.R_below (by (with_reducible repeat (first | apply Kd.R_alloc | apply Kd.R_drewN | apply Kd.R_drew)); exact HO320.out) hb); have n1_ := Aside0.mk (Kd.R_below (by (with_reducible repeat (first | apply Kd.R_alloc | apply Kd.R_drewN | apply Kd.R_drew)); exact HO328.out) hb); have n2_ := Aside0.mk (blk_below (g := gb322) (o := .cells #[.string t315, .string t316, .string t317, .slice Ao82 t318.length co82] 64 (0, 0)) (by (with_reducible repeat (first | refine blk_drewN ?_ _ | refine blk_drew ?_ | refine blk_alloc ?_ _)); exact BK322.out) hb); have n3_ := Aside0.mk (below_step (by repeat (first | (with_reducible first | exact HB.out | apply below_alloc | apply pw_below_drewN | apply below_drew1 | refine below_set ?_ GE322.out) | exact HB.out)) hb); have n4_ := Aside0.mk (hbox); have n5_ := Aside0.mk ((by rw [hg]; exact (below_size (by repeat (first | (with_reducible first | exact HB.out | apply below_alloc | apply pw_below_drewN | apply below_drew1 | refine below_set ?_ GE322.out) | exact HB.out))) : w.heap.size ≤ gb330)); have n6_ := Aside0.mk ((by rw [hg]; exact (below_size (by repeat (first | (with_reducible first | exact HB.out | apply below_alloc | apply pw_below_drewN | apply below_drew1 | refine below_set ?_ GE322.out) | exact HB.out))) : w.heap.size ≤ gb330)); have n7_ := Aside0.mk ((by rw [hg]; exact Nat.ne_of_lt (blk_lt (g := gb322) (o := .cells #[.string t315, .string t316, .string t317, .slice Ao82 t318.length co82] 64 (0, 0)) (by (with_reducible repeat (first | refine blk_drewN ?_ _ | refine blk_drew ?_ | refine blk_alloc ?_ _)); exact BK322.out)) : gb322 ≠ gb330)); have n8_ := Aside0.mk ((by rw [hg]; exact Nat.ne_of_gt (blk_lt (g := gb322) (o := .cells #[.string t315, .string t316, .string t317, .slice Ao82 t318.length co82] 64 (0, 0)) (by (with_reducible repeat (first | refine blk_drewN ?_ _ | refine blk_drew ?_ | refine blk_alloc ?_ _)); exact BK322.out)) : gb330 ≠ gb322)); clear HO320; clear HO328; clear BK322; clear HB; have HO320 := n0_; have HO328 := n1_; have BK322 := n2_; have HB := n3_; have BK330 := n4_; have GW330 := n5_; have GE330 := n6_; have NB322_330 := n7_; have NB330_322 := n8_; clear n0_ n1_ n2_ n3_ n4_ n5_ n6_ n7_ n8_; clear hb hbox hg; have hnb85 := NB330_322.out; have hnc85 := NB322_330.out; have hcz86_0 : w84.cell? ⟨gb330, 0, none⟩ = some (.string (⟨#[]⟩ : ByteArray)) := (blk_cell BK330.out 0).trans rfl; have hcz86_1 : w84.cell? ⟨gb330, 1, none⟩ = some (.string (⟨#[]⟩ : ByteArray)) := (blk_cell BK330.out 1).trans rfl; have hcz86_2 : w84.cell? ⟨gb330, 2, none⟩ = some (.string (⟨#[]⟩ : ByteArray)) := (blk_cell BK330.out 2).trans rfl; have hcz86_3 : w84.cell? ⟨gb330, 3, none⟩ = some (.slice none 0 0) := (blk_cell BK330.out 3).trans rfl; have hfz86_0 := blk_frozen BK330.out 0; have hfz86_1 := blk_frozen BK330.out 1; have hfz86_2 := blk_frozen BK330.out 2; have hfz86_3 := blk_frozen BK330.out 3; obtain ⟨Ao87, co87, eo87⟩ := Kd.R_slice HO328.out; subst eo87; have hcz88_0 : w84.cell? ⟨gb322, 0, none⟩ = some (.string t315) := (blk_cell BK322.out 0).trans rfl; have hcz88_1 : w84.cell? ⟨gb322, 1, none⟩ = some (.string t316) := (blk_cell BK322.out 1).trans rfl; have hcz88_2 : w84.cell? ⟨gb322, 2, none⟩ = some (.string t317) := (blk_cell BK322.out 2).trans rfl; have hcz88_3 : w84.cell? ⟨gb322, 3, none⟩ = some (.slice Ao82 t318.length co82) := (blk_cell BK322.out 3).trans rfl; have hfz88_0 := blk_frozen BK322.out 0; have hfz88_1 := blk_frozen BK322.out 1; have hfz88_2 := blk_frozen BK322.out 2; have hfz88_3 := blk_frozen BK322.out 3) | ((with_reducible refine gate_callee (f := 52) rfl ?_); refine goesL_ (some 30) rfl rfl Tryd.func52 (by kernel_rfl) rfl #[.string t315, .string t323] rfl (by (try simp only [List.map_toArray, List.map_cons, List.map_nil]); first | done | rfl | (simp only [List.length_drop, List.length_take]; rfl)) ?_; (with_reducible refine (graftwoodref02_Cmp.calls k t315 t323 t331 _ A5.out).mono ?_); rintro e w89 ⟨rfl, hb⟩; refine ⟨_, rfl, ?_⟩; have n0_ := Aside0.mk (Kd.R_below (by (with_reducible repeat (first | apply Kd.R_alloc | apply Kd.R_drewN | apply Kd.R_drew)); exact (Kd.R_mono (Kd.R_far (p := ⟨gb330, 3, none⟩) (Kd.R_far (p := ⟨gb330, 2, none⟩) (Kd.R_far (p := ⟨gb330, 1, none⟩) (Kd.R_far (p := ⟨gb330, 0, none⟩) (Kd.R_types HO320.out BK330.out (by decide)) (fun _ hk => hk.2) (.string t323)) (fun _ hk => hk.2) (.string t324)) (fun _ hk => hk.2) (.string t325)) (fun _ hk => hk.2) (.slice Ao87 t326.length co87)) (fun _ h_ => h_.1))) hb); have n1_ := Aside0.mk (Kd.R_below (by (with_reducible repeat (first | apply Kd.R_alloc | apply Kd.R_drewN | apply Kd.R_drew)); exact (Kd.R_mono (Kd.R_far (p := ⟨gb330, 3, none⟩) (Kd.R_far (p := ⟨gb330, 2, none⟩) (Kd.R_far (p := ⟨gb330, 1, none⟩) (Kd.R_far (p := ⟨gb330, 0, none⟩) (Kd.R_types HO328.out BK330.out (by decide)) (fun _ hk => hk.2) (.string t323)) (fun _ hk => hk.2) (.string t324)) (fun _ hk => hk.2) (.string t325)) (fun _ hk => hk.2) (.slice Ao87 t326.length co87)) (fun _ h_ => h_.1))) hb); have n2_ := Aside0.mk (blk_below (g := gb322) (o := .cells #[.string t315, .string t316, .string t317, .slice Ao82 t318.length co82] 64 (0, 0)) (by (with_reducible repeat (first | refine blk_drewN ?_ _ | refine blk_drew ?_ | refine blk_alloc ?_ _)); refine blk_far ?_ NB322_330.out _; (with_reducible repeat (first | refine blk_drewN ?_ _ | refine blk_drew ?_ | refine blk_alloc ?_ _)); refine blk_far ?_ NB322_330.out _; (with_reducible repeat (first | refine blk_drewN ?_ _ | refine blk_drew ?_ | refine blk_alloc ?_ _)); refine blk_far ?_ NB322_330.out _; (with_reducible repeat (first | refine blk_drewN ?_ _ | refine blk_drew ?_ | refine blk_alloc ?_ _)); refine blk_far ?_ NB322_330.out _; (with_reducible repeat (first | refine blk_drewN ?_ _ | refine blk_drew ?_ | refine blk_alloc ?_ _)); exact BK322.out) hb); have n3_ := Aside0.mk (blk_below (g := gb330) (o := .cells #[.string t323, .string t324, .string t325, .slice Ao87 t326.length co87] 64 (0, 0)) (by (with_reducible repeat (first | refine blk_drewN ?_ _ | refine blk_drew ?_ | refine blk_alloc ?_ _)); refine blk_put (cs := #[.string t323, .string t324, .string t325, .slice none 0 0]) ?_ 3 _ rfl; (with_reducible repeat (first | refine blk_drewN ?_ _ | refine blk_drew ?_ | refine blk_alloc ?_ _)); refine blk_put (cs := #[.string t323, .string t324, .string (⟨#[]⟩ : ByteArray), .slice none 0 0]) ?_ 2 _ rfl; (with_reducible repeat (first | refine blk_drewN ?_ _ | refine blk_drew ?_ | refine blk_alloc ?_ _)); refine blk_put (cs := #[.string t323, .string (⟨#[]⟩ : ByteArray), .string (⟨#[]⟩ : ByteArray), .slice none 0 0]) ?_ 1 _ rfl; (with_reducible repeat (first | refine blk_drewN ?_ _ | refine blk_drew ?_ | refine blk_alloc ?_ _)); refine blk_put (cs := #[.string (⟨#[]⟩ : ByteArray), .string (⟨#[]⟩ : ByteArray), .string (⟨#[]⟩ : ByteArray), .slice none 0 0]) ?_ 0 _ rfl; (with_reducible repeat (first | refine blk_drewN ?_ _ | refine blk_drew ?_ | refine blk_alloc ?_ _)); exact BK330.out) hb); have n4_ := Aside0.mk (below_step (by repeat (first | (with_reducible first | exact HB.out | apply below_alloc | apply pw_below_drewN | apply below_drew1 | refine below_set ?_ GE322.out | refine below_set ?_ GE330.out) | exact HB.out)) hb); clear HO320; clear HO328; clear BK322; clear BK330; clear HB; have HO320 := n0_; have HO328 := n1_; have BK322 := n2_; have BK330 := n3_; have HB := n4_; clear n0_ n1_ n2_ n3_ n4_; (try clear hb); (try clear hb2); (try clear hk); (try clear hi)))
  go_ret
  exact ⟨by first | rfl | (simp [errW_none, errW_some] <;> rfl) | (simp [*, errW_none, errW_some] <;> rfl), by repeat (first | (with_reducible first | exact HB.out | apply below_alloc | apply pw_below_drewN | apply below_drew1 | refine below_set ?_ GE322.out | refine below_set ?_ GE330.out) | exact HB.out)⟩

/-! ### graftwoodref05_Less: function 37 -/
def graftwoodref05_Less.f (k : Nat) (a0_0 : ByteArray) (a0_1 : ByteArray) (a1_0 : ByteArray) (a1_1 : ByteArray) : Option (Bool) := (graftwoodref01_Cmp.f k a0_0 a1_0).bind fun t339 => (if t339 < 0 then (some true) else (if t339 = 0 then ((graftwoodref03_Cmp.f k a0_1 a1_1).bind fun t340 => (some (decide (t340 < 0)))) else (some false)))
theorem graftwoodref05_Less.mono : ∀ a0 a1 a2 a3 k, LeO (graftwoodref05_Less.f k a0 a1 a2 a3) (graftwoodref05_Less.f (k + 1) a0 a1 a2 a3) := by
 intro a0 a1 a2 a3 k
 unfold graftwoodref05_Less.f
 repeat' first
   | (with_reducible exact graftwoodref01_Cmp.mono _ _ _)
   | (with_reducible exact graftwoodref03_Cmp.mono _ _ _)
   | (with_reducible exact LeO.refl _)
   | (with_reducible exact LeO.none _)
   | (with_reducible refine LeO.ite ?_ ?_)
   | (with_reducible refine LeO.bind ?_ (fun _ => ?_))
   | exact graftwoodref01_Cmp.mono _ _ _
   | exact graftwoodref03_Cmp.mono _ _ _
   | exact LeO.none _
   | refine LeO.ite ?_ ?_
   | refine LeO.bind ?_ (fun _ => ?_)
set_option maxHeartbeats 8000000 in
set_option maxRecDepth 100000 in
theorem graftwoodref05_Less.calls (k : Nat) (a0_0 : ByteArray) (a0_1 : ByteArray) (a1_0 : ByteArray) (a1_1 : ByteArray) (r : Bool) (w : World) (h : graftwoodref05_Less.f k a0_0 a0_1 a1_0 a1_1 = some r) :
  Calls Tryd.prog 37 #[.agg #[.string a0_0, .string a0_1], .agg #[.string a1_0, .string a1_1]] w fun e w' => e = .returned (.bool r) ∧ Below w.heap.size w w' := by
 have hu34 := Tryd.underlying34
 have HB := Aside0.mk (Below.refl w.heap.size w)
 have H : ((graftwoodref01_Cmp.f k a0_0 a1_0).bind fun t339 => (if t339 < 0 then (some true) else (if t339 = 0 then ((graftwoodref03_Cmp.f k a0_1 a1_1).bind fun t340 => (some (decide (t340 < 0)))) else (some false)))) = some r := h
 clear h
 replace H := Option.bind_eq_some_iff.mp H
 obtain ⟨t339, A30, H⟩ := H
 replace H : (if t339 < 0 then (some true) else (if t339 = 0 then ((graftwoodref03_Cmp.f k a0_1 a1_1).bind fun t340 => (some (decide (t340 < 0)))) else (some false))) = some r := H
 have A3 := Aside0.mk A30
 clear A30
 by_cases c4 : t339 < 0
 ·rw [if_pos c4] at H
  have c4b0 : decide (t339 < 0) = true := decide_eq_true c4
  clear c4
  obtain rfl := Option.some.inj H
  go_enter Tryd.func37, Tryd.ntmps37
  go_wp2_with (first | ((with_reducible refine gate_dst (N := 2) rfl ?_); refine box_event ?hg (N := 2) ?hd (cs := #[.string a0_0, .string a0_1]) (t := 34) ?hr ?_; (case hd => rfl); (case hg => rfl); (case hr => first | (go_simp; done) | (go_simp; rfl)); intro gb337 hg w5 hbox hb; have n0_ := Aside0.mk (below_step (by repeat (first | (with_reducible first | exact HB.out | apply below_alloc | apply pw_below_drewN | apply below_drew1) | exact HB.out)) hb); have n1_ := Aside0.mk (hbox); have n2_ := Aside0.mk ((by rw [hg]; exact (below_size (by repeat (first | (with_reducible first | exact HB.out | apply below_alloc | apply pw_below_drewN | apply below_drew1) | exact HB.out))) : w.heap.size ≤ gb337)); have n3_ := Aside0.mk ((by rw [hg]; exact (below_size (by repeat (first | (with_reducible first | exact HB.out | apply below_alloc | apply pw_below_drewN | apply below_drew1) | exact HB.out))) : w.heap.size ≤ gb337)); clear HB; have HB := n0_; have BK337 := n1_; have GW337 := n2_; have GE337 := n3_; clear n0_ n1_ n2_ n3_; clear hb hbox hg) | ((with_reducible refine gate_dst (N := 3) rfl ?_); refine box_event ?hg (N := 3) ?hd (cs := #[.string a1_0, .string a1_1]) (t := 34) ?hr ?_; (case hd => rfl); (case hg => rfl); (case hr => first | (go_simp; done) | (go_simp; rfl)); intro gb338 hg w6 hbox hb; have n0_ := Aside0.mk (blk_below (g := gb337) (o := .cells #[.string a0_0, .string a0_1] 34 (0, 0)) (by (with_reducible repeat (first | refine blk_drewN ?_ _ | refine blk_drew ?_ | refine blk_alloc ?_ _)); exact BK337.out) hb); have n1_ := Aside0.mk (below_step (by repeat (first | (with_reducible first | exact HB.out | apply below_alloc | apply pw_below_drewN | apply below_drew1 | refine below_set ?_ GE337.out) | exact HB.out)) hb); have n2_ := Aside0.mk (hbox); have n3_ := Aside0.mk ((by rw [hg]; exact (below_size (by repeat (first | (with_reducible first | exact HB.out | apply below_alloc | apply pw_below_drewN | apply below_drew1 | refine below_set ?_ GE337.out) | exact HB.out))) : w.heap.size ≤ gb338)); have n4_ := Aside0.mk ((by rw [hg]; exact (below_size (by repeat (first | (with_reducible first | exact HB.out | apply below_alloc | apply pw_below_drewN | apply below_drew1 | refine below_set ?_ GE337.out) | exact HB.out))) : w.heap.size ≤ gb338)); have n5_ := Aside0.mk ((by rw [hg]; exact Nat.ne_of_lt (blk_lt (g := gb337) (o := .cells #[.string a0_0, .string a0_1] 34 (0, 0)) (by (with_reducible repeat (first | refine blk_drewN ?_ _ | refine blk_drew ?_ | refine blk_alloc ?_ _)); exact BK337.out)) : gb337 ≠ gb338)); have n6_ := Aside0.mk ((by rw [hg]; exact Nat.ne_of_gt (blk_lt (g := gb337) (o := .cells #[.string a0_0, .string a0_1] 34 (0, 0)) (by (with_reducible repeat (first | refine blk_drewN ?_ _ | refine blk_drew ?_ | refine blk_alloc ?_ _)); exact BK337.out)) : gb338 ≠ gb337)); clear BK337; clear HB; have BK337 := n0_; have HB := n1_; have BK338 := n2_; have GW338 := n3_; have GE338 := n4_; have NB337_338 := n5_; have NB338_337 := n6_; clear n0_ n1_ n2_ n3_ n4_ n5_ n6_; clear hb hbox hg; have hnb7 := NB337_338.out; have hnc7 := NB338_337.out; have hcz8_0 : w6.cell? ⟨gb337, 0, none⟩ = some (.string a0_0) := (blk_cell BK337.out 0).trans rfl; have hcz8_1 : w6.cell? ⟨gb337, 1, none⟩ = some (.string a0_1) := (blk_cell BK337.out 1).trans rfl; have hfz8_0 := blk_frozen BK337.out 0; have hfz8_1 := blk_frozen BK337.out 1; have hcz9_0 : w6.cell? ⟨gb338, 0, none⟩ = some (.string a1_0) := (blk_cell BK338.out 0).trans rfl; have hcz9_1 : w6.cell? ⟨gb338, 1, none⟩ = some (.string a1_1) := (blk_cell BK338.out 1).trans rfl; have hfz9_0 := blk_frozen BK338.out 0; have hfz9_1 := blk_frozen BK338.out 1) | ((with_reducible refine gate_callee (f := 43) rfl ?_); refine goesL_ (some 10) rfl rfl Tryd.func43 (by kernel_rfl) rfl #[.string a0_0, .string a1_0] rfl (by (try simp only [List.map_toArray, List.map_cons, List.map_nil]); first | done | rfl | (simp only [List.length_drop, List.length_take]; rfl)) ?_; (with_reducible refine (graftwoodref01_Cmp.calls k a0_0 a1_0 t339 _ A3.out).mono ?_); rintro e w' ⟨rfl, ⟨nd, rfl⟩⟩; refine ⟨_, rfl, ?_⟩))
  go_ret
  exact ⟨by first | rfl | (simp [errW_none, errW_some] <;> rfl) | (simp [*, errW_none, errW_some] <;> rfl), by repeat (first | (with_reducible first | exact HB.out | apply below_alloc | apply pw_below_drewN | apply below_drew1 | refine below_set ?_ GE337.out | refine below_set ?_ GE338.out) | exact HB.out)⟩
 ·rw [if_neg c4] at H
  have c4b0 : decide (t339 < 0) = false := decide_eq_false c4
  clear c4
  by_cases c10 : t339 = 0
  ·rw [if_pos c10] at H
   have c10b0 : (t339 == 0) = true := beq_iff_eq.mpr c10
   have c10b1 : (t339 != 0) = false := bne_eq_false_iff_eq.mpr c10
   clear c10
   replace H := Option.bind_eq_some_iff.mp H
   obtain ⟨t340, A110, H⟩ := H
   replace H : (some (decide (t340 < 0))) = some r := H
   have A11 := Aside0.mk A110
   clear A110
   obtain rfl := Option.some.inj H
   go_enter Tryd.func37, Tryd.ntmps37
   go_wp2_with (first | ((with_reducible refine gate_dst (N := 2) rfl ?_); refine box_event ?hg (N := 2) ?hd (cs := #[.string a0_0, .string a0_1]) (t := 34) ?hr ?_; (case hd => rfl); (case hg => rfl); (case hr => first | (go_simp; done) | (go_simp; rfl)); intro gb337 hg w12 hbox hb; have n0_ := Aside0.mk (below_step (by repeat (first | (with_reducible first | exact HB.out | apply below_alloc | apply pw_below_drewN | apply below_drew1) | exact HB.out)) hb); have n1_ := Aside0.mk (hbox); have n2_ := Aside0.mk ((by rw [hg]; exact (below_size (by repeat (first | (with_reducible first | exact HB.out | apply below_alloc | apply pw_below_drewN | apply below_drew1) | exact HB.out))) : w.heap.size ≤ gb337)); have n3_ := Aside0.mk ((by rw [hg]; exact (below_size (by repeat (first | (with_reducible first | exact HB.out | apply below_alloc | apply pw_below_drewN | apply below_drew1) | exact HB.out))) : w.heap.size ≤ gb337)); clear HB; have HB := n0_; have BK337 := n1_; have GW337 := n2_; have GE337 := n3_; clear n0_ n1_ n2_ n3_; clear hb hbox hg) | ((with_reducible refine gate_dst (N := 3) rfl ?_); refine box_event ?hg (N := 3) ?hd (cs := #[.string a1_0, .string a1_1]) (t := 34) ?hr ?_; (case hd => rfl); (case hg => rfl); (case hr => first | (go_simp; done) | (go_simp; rfl)); intro gb338 hg w13 hbox hb; have n0_ := Aside0.mk (blk_below (g := gb337) (o := .cells #[.string a0_0, .string a0_1] 34 (0, 0)) (by (with_reducible repeat (first | refine blk_drewN ?_ _ | refine blk_drew ?_ | refine blk_alloc ?_ _)); exact BK337.out) hb); have n1_ := Aside0.mk (below_step (by repeat (first | (with_reducible first | exact HB.out | apply below_alloc | apply pw_below_drewN | apply below_drew1 | refine below_set ?_ GE337.out) | exact HB.out)) hb); have n2_ := Aside0.mk (hbox); have n3_ := Aside0.mk ((by rw [hg]; exact (below_size (by repeat (first | (with_reducible first | exact HB.out | apply below_alloc | apply pw_below_drewN | apply below_drew1 | refine below_set ?_ GE337.out) | exact HB.out))) : w.heap.size ≤ gb338)); have n4_ := Aside0.mk ((by rw [hg]; exact (below_size (by repeat (first | (with_reducible first | exact HB.out | apply below_alloc | apply pw_below_drewN | apply below_drew1 | refine below_set ?_ GE337.out) | exact HB.out))) : w.heap.size ≤ gb338)); have n5_ := Aside0.mk ((by rw [hg]; exact Nat.ne_of_lt (blk_lt (g := gb337) (o := .cells #[.string a0_0, .string a0_1] 34 (0, 0)) (by (with_reducible repeat (first | refine blk_drewN ?_ _ | refine blk_drew ?_ | refine blk_alloc ?_ _)); exact BK337.out)) : gb337 ≠ gb338)); have n6_ := Aside0.mk ((by rw [hg]; exact Nat.ne_of_gt (blk_lt (g := gb337) (o := .cells #[.string a0_0, .string a0_1] 34 (0, 0)) (by (with_reducible repeat (first | refine blk_drewN ?_ _ | refine blk_drew ?_ | refine blk_alloc ?_ _)); exact BK337.out)) : gb338 ≠ gb337)); clear BK337; clear HB; have BK337 := n0_; have HB := n1_; have BK338 := n2_; have GW338 := n3_; have GE338 := n4_; have NB337_338 := n5_; have NB338_337 := n6_; clear n0_ n1_ n2_ n3_ n4_ n5_ n6_; clear hb hbox hg; have hnb14 := NB337_338.out; have hnc14 := NB338_337.out; have hcz15_0 : w13.cell? ⟨gb337, 0, none⟩ = some (.string a0_0) := (blk_cell BK337.out 0).trans rfl; have hcz15_1 : w13.cell? ⟨gb337, 1, none⟩ = some (.string a0_1) := (blk_cell BK337.out 1).trans rfl; have hfz15_0 := blk_frozen BK337.out 0; have hfz15_1 := blk_frozen BK337.out 1; have hcz16_0 : w13.cell? ⟨gb338, 0, none⟩ = some (.string a1_0) := (blk_cell BK338.out 0).trans rfl; have hcz16_1 : w13.cell? ⟨gb338, 1, none⟩ = some (.string a1_1) := (blk_cell BK338.out 1).trans rfl; have hfz16_0 := blk_frozen BK338.out 0; have hfz16_1 := blk_frozen BK338.out 1) | ((with_reducible refine gate_callee (f := 43) rfl ?_); refine goesL_ (some 10) rfl rfl Tryd.func43 (by kernel_rfl) rfl #[.string a0_0, .string a1_0] rfl (by (try simp only [List.map_toArray, List.map_cons, List.map_nil]); first | done | rfl | (simp only [List.length_drop, List.length_take]; rfl)) ?_; (with_reducible refine (graftwoodref01_Cmp.calls k a0_0 a1_0 t339 _ A3.out).mono ?_); rintro e w' ⟨rfl, ⟨nd, rfl⟩⟩; refine ⟨_, rfl, ?_⟩) | (go_at_call 44; (with_reducible refine (graftwoodref03_Cmp.calls k a0_1 a1_1 t340 _ A11.out).mono ?_); rintro e w17 ⟨rfl, hb⟩; have n0_ := Aside0.mk (blk_below (g := gb337) (o := .cells #[.string a0_0, .string a0_1] 34 (0, 0)) (by (with_reducible repeat (first | refine blk_drewN ?_ _ | refine blk_drew ?_ | refine blk_alloc ?_ _)); exact BK337.out) hb); have n1_ := Aside0.mk (blk_below (g := gb338) (o := .cells #[.string a1_0, .string a1_1] 34 (0, 0)) (by (with_reducible repeat (first | refine blk_drewN ?_ _ | refine blk_drew ?_ | refine blk_alloc ?_ _)); exact BK338.out) hb); have n2_ := Aside0.mk (below_step (by repeat (first | (with_reducible first | exact HB.out | apply below_alloc | apply pw_below_drewN | apply below_drew1 | refine below_set ?_ GE337.out | refine below_set ?_ GE338.out) | exact HB.out)) hb); clear BK337; clear BK338; clear HB; have BK337 := n0_; have BK338 := n1_; have HB := n2_; clear n0_ n1_ n2_; (try clear hb); (try clear hb2); (try clear hk); (try clear hi)))
   go_ret
   exact ⟨by first | rfl | (simp [errW_none, errW_some] <;> rfl) | (simp [*, errW_none, errW_some] <;> rfl), by repeat (first | (with_reducible first | exact HB.out | apply below_alloc | apply pw_below_drewN | apply below_drew1 | refine below_set ?_ GE337.out | refine below_set ?_ GE338.out) | exact HB.out)⟩
  ·rw [if_neg c10] at H
   have c10b0 : (t339 == 0) = false := beq_eq_false_iff_ne.mpr c10
   have c10b1 : (t339 != 0) = true := bne_iff_ne.mpr c10
   obtain rfl := Option.some.inj H
   go_enter Tryd.func37, Tryd.ntmps37
   go_wp2_with (first | ((with_reducible refine gate_dst (N := 2) rfl ?_); refine box_event ?hg (N := 2) ?hd (cs := #[.string a0_0, .string a0_1]) (t := 34) ?hr ?_; (case hd => rfl); (case hg => rfl); (case hr => first | (go_simp; done) | (go_simp; rfl)); intro gb337 hg w18 hbox hb; have n0_ := Aside0.mk (below_step (by repeat (first | (with_reducible first | exact HB.out | apply below_alloc | apply pw_below_drewN | apply below_drew1) | exact HB.out)) hb); have n1_ := Aside0.mk (hbox); have n2_ := Aside0.mk ((by rw [hg]; exact (below_size (by repeat (first | (with_reducible first | exact HB.out | apply below_alloc | apply pw_below_drewN | apply below_drew1) | exact HB.out))) : w.heap.size ≤ gb337)); have n3_ := Aside0.mk ((by rw [hg]; exact (below_size (by repeat (first | (with_reducible first | exact HB.out | apply below_alloc | apply pw_below_drewN | apply below_drew1) | exact HB.out))) : w.heap.size ≤ gb337)); clear HB; have HB := n0_; have BK337 := n1_; have GW337 := n2_; have GE337 := n3_; clear n0_ n1_ n2_ n3_; clear hb hbox hg) | ((with_reducible refine gate_dst (N := 3) rfl ?_); refine box_event ?hg (N := 3) ?hd (cs := #[.string a1_0, .string a1_1]) (t := 34) ?hr ?_; (case hd => rfl); (case hg => rfl); (case hr => first | (go_simp; done) | (go_simp; rfl)); intro gb338 hg w19 hbox hb; have n0_ := Aside0.mk (blk_below (g := gb337) (o := .cells #[.string a0_0, .string a0_1] 34 (0, 0)) (by (with_reducible repeat (first | refine blk_drewN ?_ _ | refine blk_drew ?_ | refine blk_alloc ?_ _)); exact BK337.out) hb); have n1_ := Aside0.mk (below_step (by repeat (first | (with_reducible first | exact HB.out | apply below_alloc | apply pw_below_drewN | apply below_drew1 | refine below_set ?_ GE337.out) | exact HB.out)) hb); have n2_ := Aside0.mk (hbox); have n3_ := Aside0.mk ((by rw [hg]; exact (below_size (by repeat (first | (with_reducible first | exact HB.out | apply below_alloc | apply pw_below_drewN | apply below_drew1 | refine below_set ?_ GE337.out) | exact HB.out))) : w.heap.size ≤ gb338)); have n4_ := Aside0.mk ((by rw [hg]; exact (below_size (by repeat (first | (with_reducible first | exact HB.out | apply below_alloc | apply pw_below_drewN | apply below_drew1 | refine below_set ?_ GE337.out) | exact HB.out))) : w.heap.size ≤ gb338)); have n5_ := Aside0.mk ((by rw [hg]; exact Nat.ne_of_lt (blk_lt (g := gb337) (o := .cells #[.string a0_0, .string a0_1] 34 (0, 0)) (by (with_reducible repeat (first | refine blk_drewN ?_ _ | refine blk_drew ?_ | refine blk_alloc ?_ _)); exact BK337.out)) : gb337 ≠ gb338)); have n6_ := Aside0.mk ((by rw [hg]; exact Nat.ne_of_gt (blk_lt (g := gb337) (o := .cells #[.string a0_0, .string a0_1] 34 (0, 0)) (by (with_reducible repeat (first | refine blk_drewN ?_ _ | refine blk_drew ?_ | refine blk_alloc ?_ _)); exact BK337.out)) : gb338 ≠ gb337)); clear BK337; clear HB; have BK337 := n0_; have HB := n1_; have BK338 := n2_; have GW338 := n3_; have GE338 := n4_; have NB337_338 := n5_; have NB338_337 := n6_; clear n0_ n1_ n2_ n3_ n4_ n5_ n6_; clear hb hbox hg; have hnb20 := NB337_338.out; have hnc20 := NB338_337.out; have hcz21_0 : w19.cell? ⟨gb337, 0, none⟩ = some (.string a0_0) := (blk_cell BK337.out 0).trans rfl; have hcz21_1 : w19.cell? ⟨gb337, 1, none⟩ = some (.string a0_1) := (blk_cell BK337.out 1).trans rfl; have hfz21_0 := blk_frozen BK337.out 0; have hfz21_1 := blk_frozen BK337.out 1; have hcz22_0 : w19.cell? ⟨gb338, 0, none⟩ = some (.string a1_0) := (blk_cell BK338.out 0).trans rfl; have hcz22_1 : w19.cell? ⟨gb338, 1, none⟩ = some (.string a1_1) := (blk_cell BK338.out 1).trans rfl; have hfz22_0 := blk_frozen BK338.out 0; have hfz22_1 := blk_frozen BK338.out 1) | ((with_reducible refine gate_callee (f := 43) rfl ?_); refine goesL_ (some 10) rfl rfl Tryd.func43 (by kernel_rfl) rfl #[.string a0_0, .string a1_0] rfl (by (try simp only [List.map_toArray, List.map_cons, List.map_nil]); first | done | rfl | (simp only [List.length_drop, List.length_take]; rfl)) ?_; (with_reducible refine (graftwoodref01_Cmp.calls k a0_0 a1_0 t339 _ A3.out).mono ?_); rintro e w' ⟨rfl, ⟨nd, rfl⟩⟩; refine ⟨_, rfl, ?_⟩))
   go_ret
   exact ⟨by first | rfl | (simp [errW_none, errW_some] <;> rfl) | (simp [*, errW_none, errW_some] <;> rfl), by repeat (first | (with_reducible first | exact HB.out | apply below_alloc | apply pw_below_drewN | apply below_drew1 | refine below_set ?_ GE337.out | refine below_set ?_ GE338.out) | exact HB.out)⟩

end Go.Proofs.YtjneghnknfhboaaDoor.P
