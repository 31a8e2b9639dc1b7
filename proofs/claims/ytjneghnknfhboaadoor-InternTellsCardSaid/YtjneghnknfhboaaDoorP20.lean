-- Written by this project's own program (wip/tools/hp.py), driving the kit's print; hand texts among it. Not trusted: Lean checks it.
-- half the indentation
import Derived.Test.YtjneghnknfhboaaDoorP0
import Derived.Test.YtjneghnknfhboaaDoorP18
import Derived.Test.YtjneghnknfhboaaDoorP19
namespace Go.Proofs.YtjneghnknfhboaaDoor.P
open Go.RowKit Go.Proofs.YtjneghnknfhboaaDoorW.PrintWords Go.Proofs.YtjneghnknfhboaaDoorW.PrintLast Go.Proofs.YtjneghnknfhboaaDoorW.PrintMore
attribute [local go_sem] max2_int min2_int max_two min_two max_three min_three max_four min_four   -- for this text's walks alone
set_option linter.unusedVariables false
set_option linter.unusedSimpArgs false

/-! ### graftwoodref03_Split: function 36 -/
mutual
def graftwoodref03_Split.j0 : Nat → ByteArray → Bool → ByteArray → ByteArray → ByteArray → Option (ByteArray × ByteArray × ByteArray × List ByteArray × Bool)
 | 0, _, _, _, _, _ => none
 | k + 1, x0, x17, x198000, x198001, x198002 => if x17 = true then (some (x198000, x198001, x198002, ([] : List ByteArray), false)) else (graftwoodref03_Split.l0 k x0 (x0.size : Int) (wrap64 ((x0.size : Int) - 1)) x198000 x198001 x198002)
def graftwoodref03_Split.l0 : Nat → ByteArray → Int → Int → ByteArray → ByteArray → ByteArray → Option (ByteArray × ByteArray × ByteArray × List ByteArray × Bool)
 | 0, _, _, _, _, _, _ => none
 | k + 1, x0, x5, x6, x198000, x198001, x198002 => if x6 ≥ 0 then (if 0 ≤ x6 then (if x6 < (x0.size : Int) then (if (bt x0 x6) = 45 then (graftwoodref03_Split.l0 k x0 x6 (wrap64 (x6 - 1)) x198000 x198001 x198002) else (graftwoodref03_Split.l0 k x0 x5 (wrap64 (x6 - 1)) x198000 x198001 x198002)) else (none)) else (none)) else (if 1 ≤ x5 then (if x5 ≤ (x0.size : Int) then ((graftwoodref01_Parts.f k (x0.extract 1 (x5 : Int).toNat) 46).bind fun t198 => (if (t198.length : Int) = 3 then (if 0 < (t198.length : Int) then ((graftwoodref02_May.f k (rdOf ByteArray.empty t198 0)).bind fun t202 => (if t202 = true then (if 1 < (t198.length : Int) then ((graftwoodref02_May.f k (rdOf ByteArray.empty t198 1)).bind fun t204 => (if t204 = true then (if 2 < (t198.length : Int) then ((graftwoodref02_May.f k (rdOf ByteArray.empty t198 2)).bind fun t206 => (graftwoodref03_Split.j2 k x0 x5 t198 (!t206) x198000 x198001 x198002)) else (none)) else (graftwoodref03_Split.j2 k x0 x5 t198 true x198000 x198001 x198002))) else (none)) else (graftwoodref03_Split.j2 k x0 x5 t198 true x198000 x198001 x198002))) else (none)) else (graftwoodref03_Split.j2 k x0 x5 t198 true x198000 x198001 x198002))) else (none)) else (none))
def graftwoodref03_Split.j2 : Nat → ByteArray → Int → List ByteArray → Bool → ByteArray → ByteArray → ByteArray → Option (ByteArray × ByteArray × ByteArray × List ByteArray × Bool)
 | 0, _, _, _, _, _, _, _ => none
 | k + 1, x0, x5, x7, x60, x198000, x198001, x198002 => if x60 = true then (some (x198000, x198001, x198002, ([] : List ByteArray), false)) else (if 0 < (x7.length : Int) then (if 1 < (x7.length : Int) then (if 2 < (x7.length : Int) then (if x5 = (x0.size : Int) then (some (rdOf ByteArray.empty x7 0, rdOf ByteArray.empty x7 1, rdOf ByteArray.empty x7 2, ([] : List ByteArray), true)) else (if 0 ≤ (wrap64 (x5 + 1)) then (if (wrap64 (x5 + 1)) ≤ (x0.size : Int) then ((graftwoodref01_Parts.f k (x0.extract ((wrap64 (x5 + 1)) : Int).toNat x0.size) 46).bind fun t210 => (graftwoodref03_Split.l1 k 0 (rdOf ByteArray.empty x7 0) (rdOf ByteArray.empty x7 1) (rdOf ByteArray.empty x7 2) t210)) else (none)) else (none))) else (none)) else (none)) else (none))
def graftwoodref03_Split.l1 : Nat → Int → ByteArray → ByteArray → ByteArray → List ByteArray → Option (ByteArray × ByteArray × ByteArray × List ByteArray × Bool)
 | 0, _, _, _, _, _ => none
 | k + 1, x8, x198000, x198001, x198002, x198003 => if x8 < (x198003.length : Int) then (if 0 ≤ x8 then ((graftwoodref03_Word.f k (rdOf ByteArray.empty x198003 x8)).bind fun t214 => (if t214 = true then (graftwoodref03_Split.l1 k (wrap64 (x8 + 1)) x198000 x198001 x198002 x198003) else (some ((⟨#[]⟩ : ByteArray), (⟨#[]⟩ : ByteArray), (⟨#[]⟩ : ByteArray), ([] : List ByteArray), false)))) else (none)) else (some (x198000, x198001, x198002, x198003, true))
end
def graftwoodref03_Split.f (k : Nat) (a0 : ByteArray) : Option (ByteArray × ByteArray × ByteArray × List ByteArray × Bool) := if (a0.size : Int) = 0 then (graftwoodref03_Split.j0 k a0 true (⟨#[]⟩ : ByteArray) (⟨#[]⟩ : ByteArray) (⟨#[]⟩ : ByteArray)) else (if 0 < (a0.size : Int) then (graftwoodref03_Split.j0 k a0 ((bt a0 0) != 118) (⟨#[]⟩ : ByteArray) (⟨#[]⟩ : ByteArray) (⟨#[]⟩ : ByteArray)) else (none))
theorem graftwoodref03_Split.mono_l : ∀ k, (∀ y0 y1 y2 y3 y4, LeO (graftwoodref03_Split.j0 k y0 y1 y2 y3 y4) (graftwoodref03_Split.j0 (k + 1) y0 y1 y2 y3 y4)) ∧ (∀ y0 y1 y2 y3 y4 y5, LeO (graftwoodref03_Split.l0 k y0 y1 y2 y3 y4 y5) (graftwoodref03_Split.l0 (k + 1) y0 y1 y2 y3 y4 y5)) ∧ (∀ y0 y1 y2 y3 y4 y5 y6, LeO (graftwoodref03_Split.j2 k y0 y1 y2 y3 y4 y5 y6) (graftwoodref03_Split.j2 (k + 1) y0 y1 y2 y3 y4 y5 y6)) ∧ (∀ y0 y1 y2 y3 y4, LeO (graftwoodref03_Split.l1 k y0 y1 y2 y3 y4) (graftwoodref03_Split.l1 (k + 1) y0 y1 y2 y3 y4))
 | 0 => ⟨fun _ _ _ _ _ r h => by simp [graftwoodref03_Split.j0] at h, fun _ _ _ _ _ _ r h => by simp [graftwoodref03_Split.l0] at h, fun _ _ _ _ _ _ _ r h => by simp [graftwoodref03_Split.j2] at h, fun _ _ _ _ _ r h => by simp [graftwoodref03_Split.l1] at h⟩
 | k + 1 => by
  obtain ⟨ih0, ih1, ih2, ih3⟩ := graftwoodref03_Split.mono_l k
  refine ⟨?_, ?_, ?_, ?_⟩
  ·intro y0 y1 y2 y3 y4
   unfold graftwoodref03_Split.j0
   repeat' first
   | (with_reducible exact ih0 _ _ _ _ _)
   | (with_reducible exact ih1 _ _ _ _ _ _)
   | (with_reducible exact ih2 _ _ _ _ _ _ _)
   | (with_reducible exact ih3 _ _ _ _ _)
   | (with_reducible exact graftwoodref01_Parts.mono _ _ _)
   | (with_reducible exact graftwoodref02_May.mono _ _)
   | (with_reducible exact graftwoodref03_Word.mono _ _)
   | (with_reducible exact LeO.refl _)
   | (with_reducible exact LeO.none _)
   | (with_reducible refine LeO.ite ?_ ?_)
   | (with_reducible refine LeO.bind ?_ (fun _ => ?_))
   | exact ih0 _ _ _ _ _
   | exact ih1 _ _ _ _ _ _
   | exact ih2 _ _ _ _ _ _ _
   | exact ih3 _ _ _ _ _
   | exact graftwoodref01_Parts.mono _ _ _
   | exact graftwoodref02_May.mono _ _
   | exact graftwoodref03_Word.mono _ _
   | exact LeO.none _
   | refine LeO.ite ?_ ?_
   | refine LeO.bind ?_ (fun _ => ?_)
  ·intro y0 y1 y2 y3 y4 y5
   unfold graftwoodref03_Split.l0
   repeat' first
   | (with_reducible exact ih0 _ _ _ _ _)
   | (with_reducible exact ih1 _ _ _ _ _ _)
   | (with_reducible exact ih2 _ _ _ _ _ _ _)
   | (with_reducible exact ih3 _ _ _ _ _)
   | (with_reducible exact graftwoodref01_Parts.mono _ _ _)
   | (with_reducible exact graftwoodref02_May.mono _ _)
   | (with_reducible exact graftwoodref03_Word.mono _ _)
   | (with_reducible exact LeO.refl _)
   | (with_reducible exact LeO.none _)
   | (with_reducible refine LeO.ite ?_ ?_)
   | (with_reducible refine LeO.bind ?_ (fun _ => ?_))
   | exact ih0 _ _ _ _ _
   | exact ih1 _ _ _ _ _ _
   | exact ih2 _ _ _ _ _ _ _
   | exact ih3 _ _ _ _ _
   | exact graftwoodref01_Parts.mono _ _ _
   | exact graftwoodref02_May.mono _ _
   | exact graftwoodref03_Word.mono _ _
   | exact LeO.none _
   | refine LeO.ite ?_ ?_
   | refine LeO.bind ?_ (fun _ => ?_)
  ·intro y0 y1 y2 y3 y4 y5 y6
   unfold graftwoodref03_Split.j2
   repeat' first
   | (with_reducible exact ih0 _ _ _ _ _)
   | (with_reducible exact ih1 _ _ _ _ _ _)
   | (with_reducible exact ih2 _ _ _ _ _ _ _)
   | (with_reducible exact ih3 _ _ _ _ _)
   | (with_reducible exact graftwoodref01_Parts.mono _ _ _)
   | (with_reducible exact graftwoodref02_May.mono _ _)
   | (with_reducible exact graftwoodref03_Word.mono _ _)
   | (with_reducible exact LeO.refl _)
   | (with_reducible exact LeO.none _)
   | (with_reducible refine LeO.ite ?_ ?_)
   | (with_reducible refine LeO.bind ?_ (fun _ => ?_))
   | exact ih0 _ _ _ _ _
   | exact ih1 _ _ _ _ _ _
   | exact ih2 _ _ _ _ _ _ _
   | exact ih3 _ _ _ _ _
   | exact graftwoodref01_Parts.mono _ _ _
   | exact graftwoodref02_May.mono _ _
   | exact graftwoodref03_Word.mono _ _
   | exact LeO.none _
   | refine LeO.ite ?_ ?_
   | refine LeO.bind ?_ (fun _ => ?_)
  ·intro y0 y1 y2 y3 y4
   unfold graftwoodref03_Split.l1
   repeat' first
   | (with_reducible exact ih0 _ _ _ _ _)
   | (with_reducible exact ih1 _ _ _ _ _ _)
   | (with_reducible exact ih2 _ _ _ _ _ _ _)
   | (with_reducible exact ih3 _ _ _ _ _)
   | (with_reducible exact graftwoodref01_Parts.mono _ _ _)
   | (with_reducible exact graftwoodref02_May.mono _ _)
   | (with_reducible exact graftwoodref03_Word.mono _ _)
   | (with_reducible exact LeO.refl _)
   | (with_reducible exact LeO.none _)
   | (with_reducible refine LeO.ite ?_ ?_)
   | (with_reducible refine LeO.bind ?_ (fun _ => ?_))
   | exact ih0 _ _ _ _ _
   | exact ih1 _ _ _ _ _ _
   | exact ih2 _ _ _ _ _ _ _
   | exact ih3 _ _ _ _ _
   | exact graftwoodref01_Parts.mono _ _ _
   | exact graftwoodref02_May.mono _ _
   | exact graftwoodref03_Word.mono _ _
   | exact LeO.none _
   | refine LeO.ite ?_ ?_
   | refine LeO.bind ?_ (fun _ => ?_)
theorem graftwoodref03_Split.mono : ∀ a0 k, LeO (graftwoodref03_Split.f k a0) (graftwoodref03_Split.f (k + 1) a0) := by
 intro a0 k
 obtain ⟨ih0, ih1, ih2, ih3⟩ := graftwoodref03_Split.mono_l k
 unfold graftwoodref03_Split.f
 repeat' first
   | (with_reducible exact ih0 _ _ _ _ _)
   | (with_reducible exact ih1 _ _ _ _ _ _)
   | (with_reducible exact ih2 _ _ _ _ _ _ _)
   | (with_reducible exact ih3 _ _ _ _ _)
   | (with_reducible exact graftwoodref01_Parts.mono _ _ _)
   | (with_reducible exact graftwoodref02_May.mono _ _)
   | (with_reducible exact graftwoodref03_Word.mono _ _)
   | (with_reducible exact LeO.refl _)
   | (with_reducible exact LeO.none _)
   | (with_reducible refine LeO.ite ?_ ?_)
   | (with_reducible refine LeO.bind ?_ (fun _ => ?_))
   | exact ih0 _ _ _ _ _
   | exact ih1 _ _ _ _ _ _
   | exact ih2 _ _ _ _ _ _ _
   | exact ih3 _ _ _ _ _
   | exact graftwoodref01_Parts.mono _ _ _
   | exact graftwoodref02_May.mono _ _
   | exact graftwoodref03_Word.mono _ _
   | exact LeO.none _
   | refine LeO.ite ?_ ?_
   | refine LeO.bind ?_ (fun _ => ?_)
def graftwoodref03_Split.T13 : Bool × List (List Nat × List Nat) := (true, [([], []), ([0], [0]), ([1], [1]), ([], []), ([3], [3]), ([4], [4]), ([], []), ([6], [6]), ([7], [7]), ([0, 1, 2], []), ([9, 2, 0, 1, 2], [2, 9]), ([0, 1, 2, 3, 4, 5, 9, 10], []), ([11, 5, 10, 0, 1, 2, 3, 4, 5, 9, 10], [5, 11]), ([0, 1, 2, 3, 4, 5, 6, 7, 8, 9, 10, 11, 12], []), ([13, 8, 12, 0, 1, 2, 3, 4, 5, 6, 7, 8, 9, 10, 11, 12], [8, 13])])
def graftwoodref03_Split.B13 : List Nat := [0, 1, 3, 0, 8, 24, 0, 64, 192, 7, 519, 1599, 3647, 8191, 16383]
theorem graftwoodref03_Split.tab13 : rtab .any (opsOf Tryd.f36 13) = graftwoodref03_Split.T13 := by kernel_rfl
theorem graftwoodref03_Split.bits13 : waitsOk graftwoodref03_Split.T13.2 graftwoodref03_Split.B13 = true := by kernel_rfl
set_option maxHeartbeats 8000000 in
set_option maxRecDepth 100000 in
theorem graftwoodref03_Split.calls (k : Nat) (a0 : ByteArray) (r1 : ByteArray) (r2 : ByteArray) (r3 : ByteArray) (r4 : List ByteArray) (r5 : Bool) (w : World) (h : graftwoodref03_Split.f k a0 = some (r1, r2, r3, r4, r5)) :
  Calls Tryd.prog 36 #[.string a0] w fun e w' => ∃ v3_ : Value, e = .returned (.tuple #[.agg #[.string r1, .string r2, .string r3, v3_], .bool r5]) ∧ Kd.R Kd.string 9 w' w.heap.size (fun _ => True) v3_ r4 ∧ Below w.heap.size w w' := by
 have hu64 := Tryd.underlying64
 have HB := Aside0.mk (Below.refl w.heap.size w)
 have H : (if (a0.size : Int) = 0 then (graftwoodref03_Split.j0 k a0 true (⟨#[]⟩ : ByteArray) (⟨#[]⟩ : ByteArray) (⟨#[]⟩ : ByteArray)) else (if 0 < (a0.size : Int) then (graftwoodref03_Split.j0 k a0 ((bt a0 0) != 118) (⟨#[]⟩ : ByteArray) (⟨#[]⟩ : ByteArray) (⟨#[]⟩ : ByteArray)) else (none))) = some (r1, r2, r3, r4, r5) := h
 clear h
 have HC2 := Aside0.mk H
 clear H
 go_enter Tryd.func36, Tryd.ntmps36
 go_upto_region 2 with (first | ((with_reducible refine gate_dst (N := 2) rfl ?_); refine box_event ?hg (N := 2) ?hd (cs := #[.string (⟨#[]⟩ : ByteArray), .string (⟨#[]⟩ : ByteArray), .string (⟨#[]⟩ : ByteArray), .slice none 0 0]) (t := 64) ?hr ?_; (case hd => rfl); (case hg => rfl); (case hr => first | (go_simp; done) | (go_simp; rfl)); intro gb196 hg w3 hbox hb; have n0_ := Aside0.mk (below_step (by repeat (first | (with_reducible first | exact HB.out | apply below_alloc | apply pw_below_drewN | apply below_drew1) | exact HB.out)) hb); have n1_ := Aside0.mk (hbox); have n2_ := Aside0.mk ((by rw [hg]; exact (below_size (by repeat (first | (with_reducible first | exact HB.out | apply below_alloc | apply pw_below_drewN | apply below_drew1) | exact HB.out))) : w.heap.size ≤ gb196)); have n3_ := Aside0.mk ((by rw [hg]; exact (below_size (by repeat (first | (with_reducible first | exact HB.out | apply below_alloc | apply pw_below_drewN | apply below_drew1) | exact HB.out))) : w.heap.size ≤ gb196)); clear HB; have HB := n0_; have BK196 := n1_; have GW196 := n2_; have GE196 := n3_; clear n0_ n1_ n2_ n3_; clear hb hbox hg) | ((with_reducible refine gate_dst (N := 4) rfl ?_); refine box_event ?hg (N := 4) ?hd (cs := #[.string (⟨#[]⟩ : ByteArray), .string (⟨#[]⟩ : ByteArray), .string (⟨#[]⟩ : ByteArray), .slice none 0 0]) (t := 64) ?hr ?_; (case hd => rfl); (case hg => rfl); (case hr => first | (go_simp; done) | (go_simp; rfl)); intro gb197 hg w4 hbox hb; have n0_ := Aside0.mk (blk_below (g := gb196) (o := .cells #[.string (⟨#[]⟩ : ByteArray), .string (⟨#[]⟩ : ByteArray), .string (⟨#[]⟩ : ByteArray), .slice none 0 0] 64 (0, 0)) (by (with_reducible repeat (first | refine blk_drewN ?_ _ | refine blk_drew ?_ | refine blk_alloc ?_ _)); exact BK196.out) hb); have n1_ := Aside0.mk (below_step (by repeat (first | (with_reducible first | exact HB.out | apply below_alloc | apply pw_below_drewN | apply below_drew1 | refine below_set ?_ GE196.out) | exact HB.out)) hb); have n2_ := Aside0.mk (hbox); have n3_ := Aside0.mk ((by rw [hg]; exact (below_size (by repeat (first | (with_reducible first | exact HB.out | apply below_alloc | apply pw_below_drewN | apply below_drew1 | refine below_set ?_ GE196.out) | exact HB.out))) : w.heap.size ≤ gb197)); have n4_ := Aside0.mk ((by rw [hg]; exact (below_size (by repeat (first | (with_reducible first | exact HB.out | apply below_alloc | apply pw_below_drewN | apply below_drew1 | refine below_set ?_ GE196.out) | exact HB.out))) : w.heap.size ≤ gb197)); have n5_ := Aside0.mk ((by rw [hg]; exact Nat.ne_of_lt (blk_lt (g := gb196) (o := .cells #[.string (⟨#[]⟩ : ByteArray), .string (⟨#[]⟩ : ByteArray), .string (⟨#[]⟩ : ByteArray), .slice none 0 0] 64 (0, 0)) (by (with_reducible repeat (first | refine blk_drewN ?_ _ | refine blk_drew ?_ | refine blk_alloc ?_ _)); exact BK196.out)) : gb196 ≠ gb197)); have n6_ := Aside0.mk ((by rw [hg]; exact Nat.ne_of_gt (blk_lt (g := gb196) (o := .cells #[.string (⟨#[]⟩ : ByteArray), .string (⟨#[]⟩ : ByteArray), .string (⟨#[]⟩ : ByteArray), .slice none 0 0] 64 (0, 0)) (by (with_reducible repeat (first | refine blk_drewN ?_ _ | refine blk_drew ?_ | refine blk_alloc ?_ _)); exact BK196.out)) : gb197 ≠ gb196)); clear BK196; clear HB; have BK196 := n0_; have HB := n1_; have BK197 := n2_; have GW197 := n3_; have GE197 := n4_; have NB196_197 := n5_; have NB197_196 := n6_; clear n0_ n1_ n2_ n3_ n4_ n5_ n6_; clear hb hbox hg; have hnb5 := NB197_196.out; have hnc5 := NB196_197.out; have hcz6_0 : w4.cell? ⟨gb197, 0, none⟩ = some (.string (⟨#[]⟩ : ByteArray)) := (blk_cell BK197.out 0).trans rfl; have hcz6_1 : w4.cell? ⟨gb197, 1, none⟩ = some (.string (⟨#[]⟩ : ByteArray)) := (blk_cell BK197.out 1).trans rfl; have hcz6_2 : w4.cell? ⟨gb197, 2, none⟩ = some (.string (⟨#[]⟩ : ByteArray)) := (blk_cell BK197.out 2).trans rfl; have hcz6_3 : w4.cell? ⟨gb197, 3, none⟩ = some (.slice none 0 0) := (blk_cell BK197.out 3).trans rfl; have hfz6_0 := blk_frozen BK197.out 0; have hfz6_1 := blk_frozen BK197.out 1; have hfz6_2 := blk_frozen BK197.out 2; have hfz6_3 := blk_frozen BK197.out 3))
 (try simp only [Act.put, List.setIfInBounds_toArray, List.set_cons_zero, List.set_cons_succ])
 go_cut [17] (fun v17 wc => ∃ (kq : Nat) (x17_1 : Bool), v17 = .bool x17_1 ∧ Aside0 (graftwoodref03_Split.j0 kq a0 x17_1 (⟨#[]⟩ : ByteArray) (⟨#[]⟩ : ByteArray) (⟨#[]⟩ : ByteArray) = some (r1, r2, r3, r4, r5)) ∧ Aside0 (kq ≤ k) ∧ Aside0 (wc.heap[gb196]? = some (.cells #[.string (⟨#[]⟩ : ByteArray), .string (⟨#[]⟩ : ByteArray), .string (⟨#[]⟩ : ByteArray), (.slice none 0 0)] 64 (0, 0))) ∧ Aside0 (wc.heap[gb197]? = some (.cells #[.string (⟨#[]⟩ : ByteArray), .string (⟨#[]⟩ : ByteArray), .string (⟨#[]⟩ : ByteArray), (.slice none 0 0)] 64 (0, 0))) ∧ Aside0 (Below w.heap.size w wc))
 case first =>
  have H := HC2.out
  clear HC2
  by_cases c7 : (a0.size : Int) = 0
  ·rw [if_pos c7] at H
   have c7b0 : ((a0.size : Int) == 0) = true := beq_iff_eq.mpr c7
   have c7b1 : ((a0.size : Int) != 0) = false := bne_eq_false_iff_eq.mpr c7
   clear c7
   (first | rw [c7b0] | (simp only [i64_w, i32_w]; rw [c7b0]) | skip)
   have H' := Aside0.mk H
   clear H
   go_wp2
   go_meet
   case rel => exact ⟨_, (true), (by first | rfl | (simp; done) | (simp [*]; done)), H', ⟨by first | omega | exact Nat.le_refl _⟩, ⟨by (with_reducible repeat (first | refine blk_drewN ?_ _ | refine blk_drew ?_ | refine blk_alloc ?_ _)); refine blk_far ?_ NB196_197.out _; (with_reducible repeat (first | refine blk_drewN ?_ _ | refine blk_drew ?_ | refine blk_alloc ?_ _)); refine blk_far ?_ NB196_197.out _; (with_reducible repeat (first | refine blk_drewN ?_ _ | refine blk_drew ?_ | refine blk_alloc ?_ _)); refine blk_far ?_ NB196_197.out _; (with_reducible repeat (first | refine blk_drewN ?_ _ | refine blk_drew ?_ | refine blk_alloc ?_ _)); refine blk_far ?_ NB196_197.out _; (with_reducible repeat (first | refine blk_drewN ?_ _ | refine blk_drew ?_ | refine blk_alloc ?_ _)); exact BK196.out⟩, ⟨by (with_reducible repeat (first | refine blk_drewN ?_ _ | refine blk_drew ?_ | refine blk_alloc ?_ _)); refine blk_put (cs := #[.string (⟨#[]⟩ : ByteArray), .string (⟨#[]⟩ : ByteArray), .string (⟨#[]⟩ : ByteArray), .slice none 0 0]) ?_ 3 _ rfl; (with_reducible repeat (first | refine blk_drewN ?_ _ | refine blk_drew ?_ | refine blk_alloc ?_ _)); refine blk_put (cs := #[.string (⟨#[]⟩ : ByteArray), .string (⟨#[]⟩ : ByteArray), .string (⟨#[]⟩ : ByteArray), .slice none 0 0]) ?_ 2 _ rfl; (with_reducible repeat (first | refine blk_drewN ?_ _ | refine blk_drew ?_ | refine blk_alloc ?_ _)); refine blk_put (cs := #[.string (⟨#[]⟩ : ByteArray), .string (⟨#[]⟩ : ByteArray), .string (⟨#[]⟩ : ByteArray), .slice none 0 0]) ?_ 1 _ rfl; (with_reducible repeat (first | refine blk_drewN ?_ _ | refine blk_drew ?_ | refine blk_alloc ?_ _)); refine blk_put (cs := #[.string (⟨#[]⟩ : ByteArray), .string (⟨#[]⟩ : ByteArray), .string (⟨#[]⟩ : ByteArray), .slice none 0 0]) ?_ 0 _ rfl; (with_reducible repeat (first | refine blk_drewN ?_ _ | refine blk_drew ?_ | refine blk_alloc ?_ _)); exact BK197.out⟩, ⟨by repeat (first | (with_reducible first | exact HB.out | apply below_alloc | apply pw_below_drewN | apply below_drew1 | refine below_set ?_ GE196.out | refine below_set ?_ GE197.out) | exact HB.out)⟩⟩
  ·rw [if_neg c7] at H
   have c7b0 : ((a0.size : Int) == 0) = false := beq_eq_false_iff_ne.mpr c7
   have c7b1 : ((a0.size : Int) != 0) = true := bne_iff_ne.mpr c7
   (first | rw [c7b0] | (simp only [i64_w, i32_w]; rw [c7b0]) | skip)
   by_cases c8 : 0 < (a0.size : Int)
   ·rw [if_pos c8] at H
    have c8b0 : decide (0 < (a0.size : Int)) = true := decide_eq_true c8
    have c8b1 : decide (0 < a0.size) = true := decide_eq_true (by omega)
    clear c8
    have H' := Aside0.mk H
    clear H
    have p9 : 0 ≤ (0 : Int) := (by omega)
    have q9 : 0 < a0.size := (by have : (0 : Int) < (a0.size : Int) := of_decide_eq_true (by first | (with_reducible assumption) | assumption); omega)
    have hx9 : ∀ h : 0 < a0.size, ((a0[0]'h).toNat : Int) = bt a0 0 := bt_at a0 0
    clear p9
    have qi9 : (0 < (a0.size : Int)) = True := eq_true (of_decide_eq_true (by first | (with_reducible assumption) | assumption))
    replace q9 := eq_true q9
    go_wp2
    go_meet
    case rel => exact ⟨_, (((bt a0 0) != 118)), (by first | rfl | (simp; done) | (simp [*]; done)), H', ⟨by first | omega | exact Nat.le_refl _⟩, ⟨by (with_reducible repeat (first | refine blk_drewN ?_ _ | refine blk_drew ?_ | refine blk_alloc ?_ _)); refine blk_far ?_ NB196_197.out _; (with_reducible repeat (first | refine blk_drewN ?_ _ | refine blk_drew ?_ | refine blk_alloc ?_ _)); refine blk_far ?_ NB196_197.out _; (with_reducible repeat (first | refine blk_drewN ?_ _ | refine blk_drew ?_ | refine blk_alloc ?_ _)); refine blk_far ?_ NB196_197.out _; (with_reducible repeat (first | refine blk_drewN ?_ _ | refine blk_drew ?_ | refine blk_alloc ?_ _)); refine blk_far ?_ NB196_197.out _; (with_reducible repeat (first | refine blk_drewN ?_ _ | refine blk_drew ?_ | refine blk_alloc ?_ _)); exact BK196.out⟩, ⟨by (with_reducible repeat (first | refine blk_drewN ?_ _ | refine blk_drew ?_ | refine blk_alloc ?_ _)); refine blk_put (cs := #[.string (⟨#[]⟩ : ByteArray), .string (⟨#[]⟩ : ByteArray), .string (⟨#[]⟩ : ByteArray), .slice none 0 0]) ?_ 3 _ rfl; (with_reducible repeat (first | refine blk_drewN ?_ _ | refine blk_drew ?_ | refine blk_alloc ?_ _)); refine blk_put (cs := #[.string (⟨#[]⟩ : ByteArray), .string (⟨#[]⟩ : ByteArray), .string (⟨#[]⟩ : ByteArray), .slice none 0 0]) ?_ 2 _ rfl; (with_reducible repeat (first | refine blk_drewN ?_ _ | refine blk_drew ?_ | refine blk_alloc ?_ _)); refine blk_put (cs := #[.string (⟨#[]⟩ : ByteArray), .string (⟨#[]⟩ : ByteArray), .string (⟨#[]⟩ : ByteArray), .slice none 0 0]) ?_ 1 _ rfl; (with_reducible repeat (first | refine blk_drewN ?_ _ | refine blk_drew ?_ | refine blk_alloc ?_ _)); refine blk_put (cs := #[.string (⟨#[]⟩ : ByteArray), .string (⟨#[]⟩ : ByteArray), .string (⟨#[]⟩ : ByteArray), .slice none 0 0]) ?_ 0 _ rfl; (with_reducible repeat (first | refine blk_drewN ?_ _ | refine blk_drew ?_ | refine blk_alloc ?_ _)); exact BK197.out⟩, ⟨by repeat (first | (with_reducible first | exact HB.out | apply below_alloc | apply pw_below_drewN | apply below_drew1 | refine below_set ?_ GE196.out | refine below_set ?_ GE197.out) | exact HB.out)⟩⟩
   ·rw [if_neg c8] at H
    exact absurd H (by simp)
 case rest =>
  clear HC2
  try clear p2
  try clear c3
  try clear c5
  try clear c7
  try clear c7b0
  try clear c7b1
  try clear c8
  try clear c8b0
  try clear c8b1
  try clear p9
  try clear q9
  try clear hx9
  try clear qi9
  try clear hcz6_0
  try clear hcz6_1
  try clear hcz6_2
  try clear hcz6_3
  try clear hfz6_0
  try clear hfz6_1
  try clear hfz6_2
  try clear hfz6_3
  try clear p9
  try clear q9
  obtain ⟨kq, x17_1, rfl, HA, HJ1, BK196, BK197, HB⟩ := hcut
  cases kq with
  | zero => exact absurd HA.out (by simp [graftwoodref03_Split.j0])
  | succ kj1 =>
   have H := HA.out
   clear HA
   simp only [graftwoodref03_Split.j0] at H
   by_cases c10 : x17_1 = true
   ·subst c10
    have H1 : (some ((⟨#[]⟩ : ByteArray), (⟨#[]⟩ : ByteArray), (⟨#[]⟩ : ByteArray), ([] : List ByteArray), false)) = some (r1, r2, r3, r4, r5) := by rw [if_pos rfl] at H; exact H
    clear H
    have H := H1
    clear H1
    simp only [Option.some.injEq, Prod.mk.injEq] at H
    obtain ⟨rfl, rfl, rfl, rfl, rfl⟩ := H
    have hnb11 := NB197_196.out
    have hnc11 := NB196_197.out
    have hcz12_0 : wc.cell? ⟨gb197, 0, none⟩ = some (.string (⟨#[]⟩ : ByteArray)) := (blk_cell BK197.out 0).trans rfl
    have hcz12_1 : wc.cell? ⟨gb197, 1, none⟩ = some (.string (⟨#[]⟩ : ByteArray)) := (blk_cell BK197.out 1).trans rfl
    have hcz12_2 : wc.cell? ⟨gb197, 2, none⟩ = some (.string (⟨#[]⟩ : ByteArray)) := (blk_cell BK197.out 2).trans rfl
    have hcz12_3 : wc.cell? ⟨gb197, 3, none⟩ = some (.slice none 0 0) := (blk_cell BK197.out 3).trans rfl
    have hfz12_0 := blk_frozen BK197.out 0
    have hfz12_1 := blk_frozen BK197.out 1
    have hfz12_2 := blk_frozen BK197.out 2
    have hfz12_3 := blk_frozen BK197.out 3
    have hcz13_0 : wc.cell? ⟨gb196, 0, none⟩ = some (.string (⟨#[]⟩ : ByteArray)) := (blk_cell BK196.out 0).trans rfl
    have hcz13_1 : wc.cell? ⟨gb196, 1, none⟩ = some (.string (⟨#[]⟩ : ByteArray)) := (blk_cell BK196.out 1).trans rfl
    have hcz13_2 : wc.cell? ⟨gb196, 2, none⟩ = some (.string (⟨#[]⟩ : ByteArray)) := (blk_cell BK196.out 2).trans rfl
    have hcz13_3 : wc.cell? ⟨gb196, 3, none⟩ = some (.slice none 0 0) := (blk_cell BK196.out 3).trans rfl
    have hfz13_0 := blk_frozen BK196.out 0
    have hfz13_1 := blk_frozen BK196.out 1
    have hfz13_2 := blk_frozen BK196.out 2
    have hfz13_3 := blk_frozen BK196.out 3
    go_wp2
    refine bodyPost_ret (results_ct rfl _ _ gb196 64 #[.string (⟨#[]⟩ : ByteArray), .string (⟨#[]⟩ : ByteArray), .string (⟨#[]⟩ : ByteArray), .slice none 0 0] (0, 0) _ rfl (by (with_reducible repeat (first | refine blk_drewN ?_ _ | refine blk_drew ?_ | refine blk_alloc ?_ _)); refine blk_put (cs := #[.string (⟨#[]⟩ : ByteArray), .string (⟨#[]⟩ : ByteArray), .string (⟨#[]⟩ : ByteArray), .slice none 0 0]) ?_ 3 _ rfl; (with_reducible repeat (first | refine blk_drewN ?_ _ | refine blk_drew ?_ | refine blk_alloc ?_ _)); refine blk_put (cs := #[.string (⟨#[]⟩ : ByteArray), .string (⟨#[]⟩ : ByteArray), .string (⟨#[]⟩ : ByteArray), .slice none 0 0]) ?_ 2 _ rfl; (with_reducible repeat (first | refine blk_drewN ?_ _ | refine blk_drew ?_ | refine blk_alloc ?_ _)); refine blk_put (cs := #[.string (⟨#[]⟩ : ByteArray), .string (⟨#[]⟩ : ByteArray), .string (⟨#[]⟩ : ByteArray), .slice none 0 0]) ?_ 1 _ rfl; (with_reducible repeat (first | refine blk_drewN ?_ _ | refine blk_drew ?_ | refine blk_alloc ?_ _)); refine blk_put (cs := #[.string (⟨#[]⟩ : ByteArray), .string (⟨#[]⟩ : ByteArray), .string (⟨#[]⟩ : ByteArray), .slice none 0 0]) ?_ 0 _ rfl; (with_reducible repeat (first | refine blk_drewN ?_ _ | refine blk_drew ?_ | refine blk_alloc ?_ _)); exact BK196.out) Tryd.underlying64 rfl (by kernel_rfl)) rfl ?_
    exact ⟨_, by first | rfl | (simp [errW_none, errW_some] <;> rfl) | (simp [*, errW_none, errW_some] <;> rfl), by first | exact Kd.R_nil _ _ _ _ _ | exact Kd.N_nil _ _ _ _ _ | exact Kd.V_nil _ _ _ _ _ | exact Kd.Q_nil _ _ _ _ _ | exact Kd.S_nil _ _ _ _ _, by repeat (first | (with_reducible first | exact HB.out | apply below_alloc | apply pw_below_drewN | apply below_drew1 | refine below_set ?_ GE196.out | refine below_set ?_ GE197.out) | exact HB.out)⟩
   ·replace c10 := Bool.eq_false_iff.mpr c10
    subst c10
    have H1 : (graftwoodref03_Split.l0 kj1 a0 (a0.size : Int) (wrap64 ((a0.size : Int) - 1)) (⟨#[]⟩ : ByteArray) (⟨#[]⟩ : ByteArray) (⟨#[]⟩ : ByteArray)) = some (r1, r2, r3, r4, r5) := by rw [if_neg (show ¬ (false = true) by decide)] at H; exact H
    clear H
    have H := H1
    clear H1
    have H' := Aside0.mk H
    clear H
    go_wp2
    go_loopg [5, 6] kj1 (fun kq v5 v6 w' => ∃ (x5_2 : Int) (x6_2 : Int), v5 = .int .i64 x5_2 ∧ v6 = .int .i64 x6_2 ∧ Aside0 (graftwoodref03_Split.l0 kq a0 x5_2 x6_2 (⟨#[]⟩ : ByteArray) (⟨#[]⟩ : ByteArray) (⟨#[]⟩ : ByteArray) = some (r1, r2, r3, r4, r5)) ∧ Aside0 (kq ≤ kj1) ∧ Aside0 (w'.heap[gb196]? = some (.cells #[.string (⟨#[]⟩ : ByteArray), .string (⟨#[]⟩ : ByteArray), .string (⟨#[]⟩ : ByteArray), (.slice none 0 0)] 64 (0, 0))) ∧ Aside0 (w'.heap[gb197]? = some (.cells #[.string (⟨#[]⟩ : ByteArray), .string (⟨#[]⟩ : ByteArray), .string (⟨#[]⟩ : ByteArray), (.slice none 0 0)] 64 (0, 0))) ∧ Aside0 (Below w.heap.size w w'))
    case atStart => exact ⟨((a0.size : Int)), (wrap64 ((a0.size : Int) - 1)), (by first | rfl | (simp; done) | (simp [*]; done)), (by first | rfl | (simp; done) | (simp [*]; done)), H', ⟨Nat.le_refl _⟩, ⟨by (with_reducible repeat (first | refine blk_drewN ?_ _ | refine blk_drew ?_ | refine blk_alloc ?_ _)); exact BK196.out⟩, ⟨by (with_reducible repeat (first | refine blk_drewN ?_ _ | refine blk_drew ?_ | refine blk_alloc ?_ _)); exact BK197.out⟩, ⟨by repeat (first | (with_reducible first | exact HB.out | apply below_alloc | apply pw_below_drewN | apply below_drew1 | refine below_set ?_ GE196.out | refine below_set ?_ GE197.out) | exact HB.out)⟩⟩
    case round =>
     clear H'
     try clear c1
     try clear p2
     try clear c3
     try clear c5
     try clear p6
     try clear c7
     try clear c7b0
     try clear c7b1
     try clear c8
     try clear c8b0
     try clear c8b1
     try clear p9
     try clear q9
     try clear hx9
     try clear qi9
     try clear c10
     try clear c11
     try clear hcz12_0
     try clear hcz12_1
     try clear hcz12_2
     try clear hcz12_3
     try clear hcz13_0
     try clear hcz13_1
     try clear hcz13_2
     try clear hcz13_3
     try clear hcz6_0
     try clear hcz6_1
     try clear hcz6_2
     try clear hcz6_3
     try clear hfz12_0
     try clear hfz12_1
     try clear hfz12_2
     try clear hfz12_3
     try clear hfz13_0
     try clear hfz13_1
     try clear hfz13_2
     try clear hfz13_3
     try clear hfz6_0
     try clear hfz6_1
     try clear hfz6_2
     try clear hfz6_3
     try clear p2
     try clear p9
     try clear q9
     obtain ⟨x5_2, x6_2, rfl, rfl, HA, HK2, BK196, BK197, HB⟩ := hrel
     cases gk with
     | zero => exact absurd HA.out (by simp [graftwoodref03_Split.l0])
     | succ k2 =>
      have H := HA.out
      clear HA
      simp only [graftwoodref03_Split.l0] at H
      by_cases c14 : x6_2 ≥ 0
      ·rw [if_pos c14] at H
       have c14b0 : decide (0 ≤ x6_2) = true := decide_eq_true c14
       clear c14
       by_cases c15 : 0 ≤ x6_2
       ·rw [if_pos c15] at H
        have c15b0 : decide (0 ≤ x6_2) = true := decide_eq_true c15
        clear c15
        by_cases c16 : x6_2 < (a0.size : Int)
        ·rw [if_pos c16] at H
         have c16b0 : decide (x6_2 < (a0.size : Int)) = true := decide_eq_true c16
         clear c16
         by_cases c18 : (bt a0 x6_2) = 45
         ·rw [if_pos c18] at H
          have c18b0 : ((bt a0 x6_2) == 45) = true := beq_iff_eq.mpr c18
          have c18b1 : ((bt a0 x6_2) != 45) = false := bne_eq_false_iff_eq.mpr c18
          clear c18
          have H' := Aside0.mk H
          clear H
          have p17 : 0 ≤ (x6_2 : Int) := of_decide_eq_true (by first | (with_reducible assumption) | assumption)
          have q17 : x6_2 < (a0.size : Int) := of_decide_eq_true (by first | (with_reducible assumption) | assumption)
          have hx17 := bt_at a0 x6_2
          replace p17 := eq_true p17
          replace q17 := eq_true q17
          go_wp2
          go_roundg k2
          case measure => have := HJ1.out; have := HK2.out; omega
          case rel => exact ⟨(x6_2), (wrap64 (x6_2 - 1)), (by first | rfl | (simp; done) | (simp [*]; done)), (by first | rfl | (simp; done) | (simp [*]; done)), H', ⟨by have := HJ1.out; have := HK2.out; omega⟩, ⟨by (with_reducible repeat (first | refine blk_drewN ?_ _ | refine blk_drew ?_ | refine blk_alloc ?_ _)); exact BK196.out⟩, ⟨by (with_reducible repeat (first | refine blk_drewN ?_ _ | refine blk_drew ?_ | refine blk_alloc ?_ _)); exact BK197.out⟩, ⟨by repeat (first | (with_reducible first | exact HB.out | apply below_alloc | apply pw_below_drewN | apply below_drew1 | refine below_set ?_ GE196.out | refine below_set ?_ GE197.out) | exact HB.out)⟩⟩
         ·rw [if_neg c18] at H
          have c18b0 : ((bt a0 x6_2) == 45) = false := beq_eq_false_iff_ne.mpr c18
          have c18b1 : ((bt a0 x6_2) != 45) = true := bne_iff_ne.mpr c18
          have H' := Aside0.mk H
          clear H
          have p17 : 0 ≤ (x6_2 : Int) := of_decide_eq_true (by first | (with_reducible assumption) | assumption)
          have q17 : x6_2 < (a0.size : Int) := of_decide_eq_true (by first | (with_reducible assumption) | assumption)
          have hx17 := bt_at a0 x6_2
          replace p17 := eq_true p17
          replace q17 := eq_true q17
          go_wp2
          go_roundg k2
          case measure => have := HJ1.out; have := HK2.out; omega
          case rel => exact ⟨(x5_2), (wrap64 (x6_2 - 1)), (by first | rfl | (simp; done) | (simp [*]; done)), (by first | rfl | (simp; done) | (simp [*]; done)), H', ⟨by have := HJ1.out; have := HK2.out; omega⟩, ⟨by (with_reducible repeat (first | refine blk_drewN ?_ _ | refine blk_drew ?_ | refine blk_alloc ?_ _)); exact BK196.out⟩, ⟨by (with_reducible repeat (first | refine blk_drewN ?_ _ | refine blk_drew ?_ | refine blk_alloc ?_ _)); exact BK197.out⟩, ⟨by repeat (first | (with_reducible first | exact HB.out | apply below_alloc | apply pw_below_drewN | apply below_drew1 | refine below_set ?_ GE196.out | refine below_set ?_ GE197.out) | exact HB.out)⟩⟩
        ·rw [if_neg c16] at H
         exact absurd H (by simp)
       ·rw [if_neg c15] at H
        exact absurd H (by simp)
      ·rw [if_neg c14] at H
       have c14b0 : decide (0 ≤ x6_2) = false := decide_eq_false c14
       clear c14
       by_cases c19 : 1 ≤ x5_2
       ·rw [if_pos c19] at H
        have c19b0 := eq_true c19
        have c19b1 : decide (1 ≤ x5_2) = true := decide_eq_true c19
        clear c19
        by_cases c20 : x5_2 ≤ (a0.size : Int)
        ·rw [if_pos c20] at H
         have c20b0 := eq_true c20
         have c20b1 : decide (x5_2 ≤ (a0.size : Int)) = true := decide_eq_true c20
         clear c20
         replace H := Option.bind_eq_some_iff.mp H
         obtain ⟨t198, A210, H⟩ := H
         replace H : (if (t198.length : Int) = 3 then (if 0 < (t198.length : Int) then ((graftwoodref02_May.f k2 (rdOf ByteArray.empty t198 0)).bind fun t202 => (if t202 = true then (if 1 < (t198.length : Int) then ((graftwoodref02_May.f k2 (rdOf ByteArray.empty t198 1)).bind fun t204 => (if t204 = true then (if 2 < (t198.length : Int) then ((graftwoodref02_May.f k2 (rdOf ByteArray.empty t198 2)).bind fun t206 => (graftwoodref03_Split.j2 k2 a0 x5_2 t198 (!t206) (⟨#[]⟩ : ByteArray) (⟨#[]⟩ : ByteArray) (⟨#[]⟩ : ByteArray))) else (none)) else (graftwoodref03_Split.j2 k2 a0 x5_2 t198 true (⟨#[]⟩ : ByteArray) (⟨#[]⟩ : ByteArray) (⟨#[]⟩ : ByteArray)))) else (none)) else (graftwoodref03_Split.j2 k2 a0 x5_2 t198 true (⟨#[]⟩ : ByteArray) (⟨#[]⟩ : ByteArray) (⟨#[]⟩ : ByteArray)))) else (none)) else (graftwoodref03_Split.j2 k2 a0 x5_2 t198 true (⟨#[]⟩ : ByteArray) (⟨#[]⟩ : ByteArray) (⟨#[]⟩ : ByteArray))) = some (r1, r2, r3, r4, r5) := H
         have A21 := Aside0.mk A210
         clear A210
         have HC22 := Aside0.mk H
         clear H
         go_upto_region 11 with (first | ((with_reducible refine gate_callee (f := 34) rfl ?_); refine goesL_ (some 36) rfl rfl Tryd.func34 (by kernel_rfl) rfl #[.string (a0.extract 1 (x5_2 : Int).toNat), .int .u8 46] rfl (by (try simp only [List.map_toArray, List.map_cons, List.map_nil]); first | done | rfl | (simp only [List.length_drop, List.length_take]; rfl)) ?_; (with_reducible refine (graftwoodref01_Parts.calls k2 (a0.extract 1 (x5_2 : Int).toNat) 46 t198 _ A21.out).mono ?_); rintro e w23 ⟨v199, rfl, ho0, hb⟩; refine ⟨_, rfl, ?_⟩; have n0_ := Aside0.mk (Kd.R_lower ho0 (below_size (by repeat (first | (with_reducible first | exact HB.out | apply below_alloc | apply pw_below_drewN | apply below_drew1 | refine below_set ?_ GE196.out | refine below_set ?_ GE197.out) | exact HB.out)))); have n1_ := Aside0.mk (blk_below (g := gb196) (o := .cells #[.string (⟨#[]⟩ : ByteArray), .string (⟨#[]⟩ : ByteArray), .string (⟨#[]⟩ : ByteArray), .slice none 0 0] 64 (0, 0)) (by (with_reducible repeat (first | refine blk_drewN ?_ _ | refine blk_drew ?_ | refine blk_alloc ?_ _)); exact BK196.out) hb); have n2_ := Aside0.mk (blk_below (g := gb197) (o := .cells #[.string (⟨#[]⟩ : ByteArray), .string (⟨#[]⟩ : ByteArray), .string (⟨#[]⟩ : ByteArray), .slice none 0 0] 64 (0, 0)) (by (with_reducible repeat (first | refine blk_drewN ?_ _ | refine blk_drew ?_ | refine blk_alloc ?_ _)); exact BK197.out) hb); have n3_ := Aside0.mk (below_step (by repeat (first | (with_reducible first | exact HB.out | apply below_alloc | apply pw_below_drewN | apply below_drew1 | refine below_set ?_ GE196.out | refine below_set ?_ GE197.out) | exact HB.out)) hb); clear BK196; clear BK197; clear HB; have HO200 := n0_; have BK196 := n1_; have BK197 := n2_; have HB := n3_; clear n0_ n1_ n2_ n3_; (try clear hb); (try clear hb2); (try clear hk); (try clear hi); (try clear ho0)))
         (try simp only [Act.put, List.setIfInBounds_toArray, List.set_cons_zero, List.set_cons_succ])
         go_cut [60] (fun v60 wc => ∃ (kq : Nat) (x60_21 : Bool), v60 = .bool x60_21 ∧ Aside0 (graftwoodref03_Split.j2 kq a0 x5_2 t198 x60_21 (⟨#[]⟩ : ByteArray) (⟨#[]⟩ : ByteArray) (⟨#[]⟩ : ByteArray) = some (r1, r2, r3, r4, r5)) ∧ Aside0 (kq ≤ k2) ∧ Aside0 (Kd.R Kd.string 9 wc w.heap.size (fun _ => True) v199 t198) ∧ Aside0 (wc.heap[gb196]? = some (.cells #[.string (⟨#[]⟩ : ByteArray), .string (⟨#[]⟩ : ByteArray), .string (⟨#[]⟩ : ByteArray), (.slice none 0 0)] 64 (0, 0))) ∧ Aside0 (wc.heap[gb197]? = some (.cells #[.string (⟨#[]⟩ : ByteArray), .string (⟨#[]⟩ : ByteArray), .string (⟨#[]⟩ : ByteArray), (.slice none 0 0)] 64 (0, 0))) ∧ Aside0 (Below w.heap.size w wc))
         case first =>
          have H := HC22.out
          clear HC22
          by_cases c24 : (t198.length : Int) = 3
          ·rw [if_pos c24] at H
           have c24b0 : ((t198.length : Int) == 3) = true := beq_iff_eq.mpr c24
           have c24b1 : ((t198.length : Int) != 3) = false := bne_eq_false_iff_eq.mpr c24
           clear c24
           (first | rw [c24b0] | (simp only [i64_w, i32_w]; rw [c24b0]) | skip)
           by_cases c25 : 0 < (t198.length : Int)
           ·rw [if_pos c25] at H
            have c25b0 : decide (0 < (t198.length : Int)) = true := decide_eq_true c25
            have c25b1 : decide (0 < t198.length) = true := decide_eq_true (by omega)
            clear c25
            replace H := Option.bind_eq_some_iff.mp H
            obtain ⟨t202, A260, H⟩ := H
            replace H : (if t202 = true then (if 1 < (t198.length : Int) then ((graftwoodref02_May.f k2 (rdOf ByteArray.empty t198 1)).bind fun t204 => (if t204 = true then (if 2 < (t198.length : Int) then ((graftwoodref02_May.f k2 (rdOf ByteArray.empty t198 2)).bind fun t206 => (graftwoodref03_Split.j2 k2 a0 x5_2 t198 (!t206) (⟨#[]⟩ : ByteArray) (⟨#[]⟩ : ByteArray) (⟨#[]⟩ : ByteArray))) else (none)) else (graftwoodref03_Split.j2 k2 a0 x5_2 t198 true (⟨#[]⟩ : ByteArray) (⟨#[]⟩ : ByteArray) (⟨#[]⟩ : ByteArray)))) else (none)) else (graftwoodref03_Split.j2 k2 a0 x5_2 t198 true (⟨#[]⟩ : ByteArray) (⟨#[]⟩ : ByteArray) (⟨#[]⟩ : ByteArray))) = some (r1, r2, r3, r4, r5) := H
            have A26 := Aside0.mk A260
            clear A260
            by_cases c27 : t202 = true
            ·subst c27
             have H1 : (if 1 < (t198.length : Int) then ((graftwoodref02_May.f k2 (rdOf ByteArray.empty t198 1)).bind fun t204 => (if t204 = true then (if 2 < (t198.length : Int) then ((graftwoodref02_May.f k2 (rdOf ByteArray.empty t198 2)).bind fun t206 => (graftwoodref03_Split.j2 k2 a0 x5_2 t198 (!t206) (⟨#[]⟩ : ByteArray) (⟨#[]⟩ : ByteArray) (⟨#[]⟩ : ByteArray))) else (none)) else (graftwoodref03_Split.j2 k2 a0 x5_2 t198 true (⟨#[]⟩ : ByteArray) (⟨#[]⟩ : ByteArray) (⟨#[]⟩ : ByteArray)))) else (none)) = some (r1, r2, r3, r4, r5) := by rw [if_pos rfl] at H; exact H
             clear H
             have H := H1
             clear H1
             by_cases c28 : 1 < (t198.length : Int)
             ·rw [if_pos c28] at H
              have c28b0 : decide (1 < (t198.length : Int)) = true := decide_eq_true c28
              have c28b1 : decide (1 < t198.length) = true := decide_eq_true (by omega)
              clear c28
              replace H := Option.bind_eq_some_iff.mp H
              obtain ⟨t204, A290, H⟩ := H
              replace H : (if t204 = true then (if 2 < (t198.length : Int) then ((graftwoodref02_May.f k2 (rdOf ByteArray.empty t198 2)).bind fun t206 => (graftwoodref03_Split.j2 k2 a0 x5_2 t198 (!t206) (⟨#[]⟩ : ByteArray) (⟨#[]⟩ : ByteArray) (⟨#[]⟩ : ByteArray))) else (none)) else (graftwoodref03_Split.j2 k2 a0 x5_2 t198 true (⟨#[]⟩ : ByteArray) (⟨#[]⟩ : ByteArray) (⟨#[]⟩ : ByteArray))) = some (r1, r2, r3, r4, r5) := H
              have A29 := Aside0.mk A290
              clear A290
              by_cases c30 : t204 = true
              ·subst c30
               have H1 : (if 2 < (t198.length : Int) then ((graftwoodref02_May.f k2 (rdOf ByteArray.empty t198 2)).bind fun t206 => (graftwoodref03_Split.j2 k2 a0 x5_2 t198 (!t206) (⟨#[]⟩ : ByteArray) (⟨#[]⟩ : ByteArray) (⟨#[]⟩ : ByteArray))) else (none)) = some (r1, r2, r3, r4, r5) := by rw [if_pos rfl] at H; exact H
               clear H
               have H := H1
               clear H1
               by_cases c31 : 2 < (t198.length : Int)
               ·rw [if_pos c31] at H
                have c31b0 : decide (2 < (t198.length : Int)) = true := decide_eq_true c31
                have c31b1 : decide (2 < t198.length) = true := decide_eq_true (by omega)
                clear c31
                replace H := Option.bind_eq_some_iff.mp H
                obtain ⟨t206, A320, H⟩ := H
                replace H : (graftwoodref03_Split.j2 k2 a0 x5_2 t198 (!t206) (⟨#[]⟩ : ByteArray) (⟨#[]⟩ : ByteArray) (⟨#[]⟩ : ByteArray)) = some (r1, r2, r3, r4, r5) := H
                have A32 := Aside0.mk A320
                clear A320
                have H' := Aside0.mk H
                clear H
                obtain ⟨Ao33, co33, eo33⟩ := Kd.R_slice HO200.out
                subst eo33
                have p201 : 0 ≤ (0 : Int) := (by omega)
                have q201 : 0 < (t198.length : Int) := of_decide_eq_true (by first | (with_reducible assumption) | assumption)
                obtain ⟨ad201, e201, hx201_0⟩ := Kd.at_string (Kd.R_reads' HO200.out).2.2 0 p201 q201
                cases e201
                have qi201 : (0 < t198.length) = True := eq_true (by omega)
                (try rw [show ((0 : Int)).toNat = 0 from rfl] at hx201_0)
                (try rw [Addr.add_zero'] at hx201_0)
                replace p201 := eq_true p201
                replace q201 := eq_true q201
                go_wp2_with (first | (go_at_call 41; (with_reducible refine (graftwoodref02_May.calls k2 (rdOf ByteArray.empty t198 0) true _ A26.out).mono ?_); rintro e w' ⟨rfl, ⟨nd, rfl⟩⟩; have p203 : 0 ≤ (1 : Int) := (by omega); have q203 : 1 < (t198.length : Int) := of_decide_eq_true (by first | (with_reducible assumption) | assumption); obtain ⟨ad203, e203, hx203_0⟩ := Kd.at_string (Kd.R_reads' HO200.out).2.2 1 p203 q203; obtain rfl : ad201 = ad203 := (by injection e203); (try simp only [show (1 : Int).toNat = 1 from rfl, Nat.reduceMul, Nat.reduceEqDiff, Go.Addr.add, ↓reduceIte] at hx203_0); have qi203 : (1 < t198.length) = True := eq_true (by omega); (try rw [show ((1 : Int)).toNat = 1 from rfl] at hx203_0); replace p203 := eq_true p203; replace q203 := eq_true q203) | (go_at_call 41; (with_reducible refine (graftwoodref02_May.calls k2 (rdOf ByteArray.empty t198 1) true _ A29.out).mono ?_); rintro e w' ⟨rfl, ⟨nd, rfl⟩⟩; have p205 : 0 ≤ (2 : Int) := (by omega); have q205 : 2 < (t198.length : Int) := of_decide_eq_true (by first | (with_reducible assumption) | assumption); obtain ⟨ad205, e205, hx205_0⟩ := Kd.at_string (Kd.R_reads' HO200.out).2.2 2 p205 q205; obtain rfl : ad201 = ad205 := (by injection e205); (try simp only [show (2 : Int).toNat = 2 from rfl, Nat.reduceMul, Nat.reduceEqDiff, Go.Addr.add, ↓reduceIte] at hx205_0); have qi205 : (2 < t198.length) = True := eq_true (by omega); (try rw [show ((2 : Int)).toNat = 2 from rfl] at hx205_0); replace p205 := eq_true p205; replace q205 := eq_true q205) | (go_at_call 41; (with_reducible refine (graftwoodref02_May.calls k2 (rdOf ByteArray.empty t198 2) t206 _ A32.out).mono ?_); rintro e w' ⟨rfl, ⟨nd, rfl⟩⟩))
                go_meet
                case rel => exact ⟨_, (!t206), (by first | rfl | (simp; done) | (simp [*]; done)), H', ⟨by have := HJ1.out; have := HK2.out; first | omega | exact Nat.le_refl _⟩, ⟨by (with_reducible repeat (first | apply Kd.R_alloc | apply Kd.R_drewN | apply Kd.R_drew)); exact HO200.out⟩, ⟨by (with_reducible repeat (first | refine blk_drewN ?_ _ | refine blk_drew ?_ | refine blk_alloc ?_ _)); exact BK196.out⟩, ⟨by (with_reducible repeat (first | refine blk_drewN ?_ _ | refine blk_drew ?_ | refine blk_alloc ?_ _)); exact BK197.out⟩, ⟨by repeat (first | (with_reducible first | exact HB.out | apply below_alloc | apply pw_below_drewN | apply below_drew1 | refine below_set ?_ GE196.out | refine below_set ?_ GE197.out) | exact HB.out)⟩⟩
               ·rw [if_neg c31] at H
                exact absurd H (by simp)
              ·replace c30 := Bool.eq_false_iff.mpr c30
               subst c30
               have H1 : (graftwoodref03_Split.j2 k2 a0 x5_2 t198 true (⟨#[]⟩ : ByteArray) (⟨#[]⟩ : ByteArray) (⟨#[]⟩ : ByteArray)) = some (r1, r2, r3, r4, r5) := by rw [if_neg (show ¬ (false = true) by decide)] at H; exact H
               clear H
               have H := H1
               clear H1
               have H' := Aside0.mk H
               clear H
               obtain ⟨Ao34, co34, eo34⟩ := Kd.R_slice HO200.out
               subst eo34
               have p201 : 0 ≤ (0 : Int) := (by omega)
               have q201 : 0 < (t198.length : Int) := of_decide_eq_true (by first | (with_reducible assumption) | assumption)
               obtain ⟨ad201, e201, hx201_0⟩ := Kd.at_string (Kd.R_reads' HO200.out).2.2 0 p201 q201
               cases e201
               have qi201 : (0 < t198.length) = True := eq_true (by omega)
               (try rw [show ((0 : Int)).toNat = 0 from rfl] at hx201_0)
               (try rw [Addr.add_zero'] at hx201_0)
               replace p201 := eq_true p201
               replace q201 := eq_true q201
               go_wp2_with (first | (go_at_call 41; (with_reducible refine (graftwoodref02_May.calls k2 (rdOf ByteArray.empty t198 0) true _ A26.out).mono ?_); rintro e w' ⟨rfl, ⟨nd, rfl⟩⟩; have p203 : 0 ≤ (1 : Int) := (by omega); have q203 : 1 < (t198.length : Int) := of_decide_eq_true (by first | (with_reducible assumption) | assumption); obtain ⟨ad203, e203, hx203_0⟩ := Kd.at_string (Kd.R_reads' HO200.out).2.2 1 p203 q203; obtain rfl : ad201 = ad203 := (by injection e203); (try simp only [show (1 : Int).toNat = 1 from rfl, Nat.reduceMul, Nat.reduceEqDiff, Go.Addr.add, ↓reduceIte] at hx203_0); have qi203 : (1 < t198.length) = True := eq_true (by omega); (try rw [show ((1 : Int)).toNat = 1 from rfl] at hx203_0); replace p203 := eq_true p203; replace q203 := eq_true q203) | (go_at_call 41; (with_reducible refine (graftwoodref02_May.calls k2 (rdOf ByteArray.empty t198 1) false _ A29.out).mono ?_); rintro e w' ⟨rfl, ⟨nd, rfl⟩⟩))
               go_meet
               case rel => exact ⟨_, (true), (by first | rfl | (simp; done) | (simp [*]; done)), H', ⟨by have := HJ1.out; have := HK2.out; first | omega | exact Nat.le_refl _⟩, ⟨by (with_reducible repeat (first | apply Kd.R_alloc | apply Kd.R_drewN | apply Kd.R_drew)); exact HO200.out⟩, ⟨by (with_reducible repeat (first | refine blk_drewN ?_ _ | refine blk_drew ?_ | refine blk_alloc ?_ _)); exact BK196.out⟩, ⟨by (with_reducible repeat (first | refine blk_drewN ?_ _ | refine blk_drew ?_ | refine blk_alloc ?_ _)); exact BK197.out⟩, ⟨by repeat (first | (with_reducible first | exact HB.out | apply below_alloc | apply pw_below_drewN | apply below_drew1 | refine below_set ?_ GE196.out | refine below_set ?_ GE197.out) | exact HB.out)⟩⟩
             ·rw [if_neg c28] at H
              exact absurd H (by simp)
            ·replace c27 := Bool.eq_false_iff.mpr c27
             subst c27
             have H1 : (graftwoodref03_Split.j2 k2 a0 x5_2 t198 true (⟨#[]⟩ : ByteArray) (⟨#[]⟩ : ByteArray) (⟨#[]⟩ : ByteArray)) = some (r1, r2, r3, r4, r5) := by rw [if_neg (show ¬ (false = true) by decide)] at H; exact H
             clear H
             have H := H1
             clear H1
             have H' := Aside0.mk H
             clear H
             obtain ⟨Ao35, co35, eo35⟩ := Kd.R_slice HO200.out
             subst eo35
             have p201 : 0 ≤ (0 : Int) := (by omega)
             have q201 : 0 < (t198.length : Int) := of_decide_eq_true (by first | (with_reducible assumption) | assumption)
             obtain ⟨ad201, e201, hx201_0⟩ := Kd.at_string (Kd.R_reads' HO200.out).2.2 0 p201 q201
             cases e201
             have qi201 : (0 < t198.length) = True := eq_true (by omega)
             (try rw [show ((0 : Int)).toNat = 0 from rfl] at hx201_0)
             (try rw [Addr.add_zero'] at hx201_0)
             replace p201 := eq_true p201
             replace q201 := eq_true q201
             go_wp2_with (first | (go_at_call 41; (with_reducible refine (graftwoodref02_May.calls k2 (rdOf ByteArray.empty t198 0) false _ A26.out).mono ?_); rintro e w' ⟨rfl, ⟨nd, rfl⟩⟩))
             go_meet
             case rel => exact ⟨_, (true), (by first | rfl | (simp; done) | (simp [*]; done)), H', ⟨by have := HJ1.out; have := HK2.out; first | omega | exact Nat.le_refl _⟩, ⟨by (with_reducible repeat (first | apply Kd.R_alloc | apply Kd.R_drewN | apply Kd.R_drew)); exact HO200.out⟩, ⟨by (with_reducible repeat (first | refine blk_drewN ?_ _ | refine blk_drew ?_ | refine blk_alloc ?_ _)); exact BK196.out⟩, ⟨by (with_reducible repeat (first | refine blk_drewN ?_ _ | refine blk_drew ?_ | refine blk_alloc ?_ _)); exact BK197.out⟩, ⟨by repeat (first | (with_reducible first | exact HB.out | apply below_alloc | apply pw_below_drewN | apply below_drew1 | refine below_set ?_ GE196.out | refine below_set ?_ GE197.out) | exact HB.out)⟩⟩
           ·rw [if_neg c25] at H
            exact absurd H (by simp)
          ·rw [if_neg c24] at H
           have c24b0 : ((t198.length : Int) == 3) = false := beq_eq_false_iff_ne.mpr c24
           have c24b1 : ((t198.length : Int) != 3) = true := bne_iff_ne.mpr c24
           (first | rw [c24b0] | (simp only [i64_w, i32_w]; rw [c24b0]) | skip)
           have H' := Aside0.mk H
           clear H
           obtain ⟨Ao36, co36, eo36⟩ := Kd.R_slice HO200.out
           subst eo36
           go_wp2
           go_meet
           case rel => exact ⟨_, (true), (by first | rfl | (simp; done) | (simp [*]; done)), H', ⟨by have := HJ1.out; have := HK2.out; first | omega | exact Nat.le_refl _⟩, ⟨by (with_reducible repeat (first | apply Kd.R_alloc | apply Kd.R_drewN | apply Kd.R_drew)); exact HO200.out⟩, ⟨by (with_reducible repeat (first | refine blk_drewN ?_ _ | refine blk_drew ?_ | refine blk_alloc ?_ _)); exact BK196.out⟩, ⟨by (with_reducible repeat (first | refine blk_drewN ?_ _ | refine blk_drew ?_ | refine blk_alloc ?_ _)); exact BK197.out⟩, ⟨by repeat (first | (with_reducible first | exact HB.out | apply below_alloc | apply pw_below_drewN | apply below_drew1 | refine below_set ?_ GE196.out | refine below_set ?_ GE197.out) | exact HB.out)⟩⟩
         case rest =>
          clear HC22
          try clear c1
          try clear p1
          try clear q1
          try clear hx1
          try clear c2
          try clear p2
          try clear q2
          try clear hx2
          try clear qi2
          try clear c3
          try clear c5
          try clear p6
          try clear c7
          try clear c7b0
          try clear c7b1
          try clear c8
          try clear c8b0
          try clear c8b1
          try clear p9
          try clear q9
          try clear hx9
          try clear qi9
          try clear c10
          try clear c11
          try clear c14
          try clear c14b0
          try clear c15
          try clear c15b0
          try clear c16
          try clear c16b0
          try clear p17
          try clear q17
          try clear hx17
          try clear c18
          try clear c18b0
          try clear c18b1
          try clear c19
          try clear c19b0
          try clear c19b1
          try clear c20
          try clear c20b0
          try clear c20b1
          try clear p20
          try clear q20
          try clear hx20
          try clear qi20
          try clear c24
          try clear c24b0
          try clear c24b1
          try clear c25
          try clear c25b0
          try clear c25b1
          try clear c27
          try clear c28
          try clear c28b0
          try clear c28b1
          try clear c30
          try clear c31
          try clear c31b0
          try clear c31b1
          try clear c34
          try clear c36
          try clear hcz12_0
          try clear hcz12_1
          try clear hcz12_2
          try clear hcz12_3
          try clear hcz13_0
          try clear hcz13_1
          try clear hcz13_2
          try clear hcz13_3
          try clear hcz6_0
          try clear hcz6_1
          try clear hcz6_2
          try clear hcz6_3
          try clear hfz12_0
          try clear hfz12_1
          try clear hfz12_2
          try clear hfz12_3
          try clear hfz13_0
          try clear hfz13_1
          try clear hfz13_2
          try clear hfz13_3
          try clear hfz6_0
          try clear hfz6_1
          try clear hfz6_2
          try clear hfz6_3
          try clear hx201_0
          try clear hx203_0
          try clear hx205_0
          try clear p17
          try clear p2
          try clear p201
          try clear p203
          try clear p205
          try clear p6
          try clear p9
          try clear q17
          try clear q201
          try clear q203
          try clear q205
          try clear q9
          obtain ⟨kq, x60_21, rfl, HA, HJ21, HO_7, BK196, BK197, HB⟩ := hcut
          cases kq with
          | zero => exact absurd HA.out (by simp [graftwoodref03_Split.j2])
          | succ kj21 =>
           have H := HA.out
           clear HA
           simp only [graftwoodref03_Split.j2] at H
           by_cases c37 : x60_21 = true
           ·subst c37
            have H1 : (some ((⟨#[]⟩ : ByteArray), (⟨#[]⟩ : ByteArray), (⟨#[]⟩ : ByteArray), ([] : List ByteArray), false)) = some (r1, r2, r3, r4, r5) := by rw [if_pos rfl] at H; exact H
            clear H
            have H := H1
            clear H1
            simp only [Option.some.injEq, Prod.mk.injEq] at H
            obtain ⟨rfl, rfl, rfl, rfl, rfl⟩ := H
            have hnb38 := NB197_196.out
            have hnc38 := NB196_197.out
            have hcz39_0 : wc.cell? ⟨gb197, 0, none⟩ = some (.string (⟨#[]⟩ : ByteArray)) := (blk_cell BK197.out 0).trans rfl
            have hcz39_1 : wc.cell? ⟨gb197, 1, none⟩ = some (.string (⟨#[]⟩ : ByteArray)) := (blk_cell BK197.out 1).trans rfl
            have hcz39_2 : wc.cell? ⟨gb197, 2, none⟩ = some (.string (⟨#[]⟩ : ByteArray)) := (blk_cell BK197.out 2).trans rfl
            have hcz39_3 : wc.cell? ⟨gb197, 3, none⟩ = some (.slice none 0 0) := (blk_cell BK197.out 3).trans rfl
            have hfz39_0 := blk_frozen BK197.out 0
            have hfz39_1 := blk_frozen BK197.out 1
            have hfz39_2 := blk_frozen BK197.out 2
            have hfz39_3 := blk_frozen BK197.out 3
            have hcz40_0 : wc.cell? ⟨gb196, 0, none⟩ = some (.string (⟨#[]⟩ : ByteArray)) := (blk_cell BK196.out 0).trans rfl
            have hcz40_1 : wc.cell? ⟨gb196, 1, none⟩ = some (.string (⟨#[]⟩ : ByteArray)) := (blk_cell BK196.out 1).trans rfl
            have hcz40_2 : wc.cell? ⟨gb196, 2, none⟩ = some (.string (⟨#[]⟩ : ByteArray)) := (blk_cell BK196.out 2).trans rfl
            have hcz40_3 : wc.cell? ⟨gb196, 3, none⟩ = some (.slice none 0 0) := (blk_cell BK196.out 3).trans rfl
            have hfz40_0 := blk_frozen BK196.out 0
            have hfz40_1 := blk_frozen BK196.out 1
            have hfz40_2 := blk_frozen BK196.out 2
            have hfz40_3 := blk_frozen BK196.out 3
            go_wp2
            refine bodyPost_ret (results_ct rfl _ _ gb196 64 #[.string (⟨#[]⟩ : ByteArray), .string (⟨#[]⟩ : ByteArray), .string (⟨#[]⟩ : ByteArray), .slice none 0 0] (0, 0) _ rfl (by (with_reducible repeat (first | refine blk_drewN ?_ _ | refine blk_drew ?_ | refine blk_alloc ?_ _)); refine blk_put (cs := #[.string (⟨#[]⟩ : ByteArray), .string (⟨#[]⟩ : ByteArray), .string (⟨#[]⟩ : ByteArray), .slice none 0 0]) ?_ 3 _ rfl; (with_reducible repeat (first | refine blk_drewN ?_ _ | refine blk_drew ?_ | refine blk_alloc ?_ _)); refine blk_put (cs := #[.string (⟨#[]⟩ : ByteArray), .string (⟨#[]⟩ : ByteArray), .string (⟨#[]⟩ : ByteArray), .slice none 0 0]) ?_ 2 _ rfl; (with_reducible repeat (first | refine blk_drewN ?_ _ | refine blk_drew ?_ | refine blk_alloc ?_ _)); refine blk_put (cs := #[.string (⟨#[]⟩ : ByteArray), .string (⟨#[]⟩ : ByteArray), .string (⟨#[]⟩ : ByteArray), .slice none 0 0]) ?_ 1 _ rfl; (with_reducible repeat (first | refine blk_drewN ?_ _ | refine blk_drew ?_ | refine blk_alloc ?_ _)); refine blk_put (cs := #[.string (⟨#[]⟩ : ByteArray), .string (⟨#[]⟩ : ByteArray), .string (⟨#[]⟩ : ByteArray), .slice none 0 0]) ?_ 0 _ rfl; (with_reducible repeat (first | refine blk_drewN ?_ _ | refine blk_drew ?_ | refine blk_alloc ?_ _)); exact BK196.out) Tryd.underlying64 rfl (by kernel_rfl)) rfl ?_
            exact ⟨_, by first | rfl | (simp [errW_none, errW_some] <;> rfl) | (simp [*, errW_none, errW_some] <;> rfl), by first | exact Kd.R_nil _ _ _ _ _ | exact Kd.N_nil _ _ _ _ _ | exact Kd.V_nil _ _ _ _ _ | exact Kd.Q_nil _ _ _ _ _ | exact Kd.S_nil _ _ _ _ _, by repeat (first | (with_reducible first | exact HB.out | apply below_alloc | apply pw_below_drewN | apply below_drew1 | refine below_set ?_ GE196.out | refine below_set ?_ GE197.out) | exact HB.out)⟩
           ·replace c37 := Bool.eq_false_iff.mpr c37
            subst c37
            have H1 : (if 0 < (t198.length : Int) then (if 1 < (t198.length : Int) then (if 2 < (t198.length : Int) then (if x5_2 = (a0.size : Int) then (some (rdOf ByteArray.empty t198 0, rdOf ByteArray.empty t198 1, rdOf ByteArray.empty t198 2, ([] : List ByteArray), true)) else (if 0 ≤ (wrap64 (x5_2 + 1)) then (if (wrap64 (x5_2 + 1)) ≤ (a0.size : Int) then ((graftwoodref01_Parts.f kj21 (a0.extract ((wrap64 (x5_2 + 1)) : Int).toNat a0.size) 46).bind fun t210 => (graftwoodref03_Split.l1 kj21 0 (rdOf ByteArray.empty t198 0) (rdOf ByteArray.empty t198 1) (rdOf ByteArray.empty t198 2) t210)) else (none)) else (none))) else (none)) else (none)) else (none)) = some (r1, r2, r3, r4, r5) := by rw [if_neg (show ¬ (false = true) by decide)] at H; exact H
            clear H
            have H := H1
            clear H1
            by_cases c41 : 0 < (t198.length : Int)
            ·rw [if_pos c41] at H
             have c41b0 : decide (0 < (t198.length : Int)) = true := decide_eq_true c41
             have c41b1 : decide (0 < t198.length) = true := decide_eq_true (by omega)
             clear c41
             by_cases c42 : 1 < (t198.length : Int)
             ·rw [if_pos c42] at H
              have c42b0 : decide (1 < (t198.length : Int)) = true := decide_eq_true c42
              have c42b1 : decide (1 < t198.length) = true := decide_eq_true (by omega)
              clear c42
              by_cases c43 : 2 < (t198.length : Int)
              ·rw [if_pos c43] at H
               have c43b0 : decide (2 < (t198.length : Int)) = true := decide_eq_true c43
               have c43b1 : decide (2 < t198.length) = true := decide_eq_true (by omega)
               clear c43
               by_cases c44 : x5_2 = (a0.size : Int)
               ·rw [if_pos c44] at H
                have c44b0 : (x5_2 == (a0.size : Int)) = true := beq_iff_eq.mpr c44
                have c44b1 : (x5_2 != (a0.size : Int)) = false := bne_eq_false_iff_eq.mpr c44
                clear c44
                simp only [Option.some.injEq, Prod.mk.injEq] at H
                obtain ⟨rfl, rfl, rfl, rfl, rfl⟩ := H
                try go_wp2
                have n0_ := Aside0.mk (Kd.R_drew HO_7.out)
                have n1_ := Aside0.mk (blk_drew BK196.out)
                have n2_ := Aside0.mk (blk_drew BK197.out)
                have n3_ := Aside0.mk (below_drew1 HB.out)
                clear HO_7 BK196 BK197 HB
                have HO_7 := n0_
                have BK196 := n1_
                have BK197 := n2_
                have HB := n3_
                clear n0_ n1_ n2_ n3_
                obtain ⟨Ao46, co46, eo46⟩ := Kd.R_slice HO_7.out
                (first | subst eo46 | (injection eo46 with f1_ f2_ f3_; have f4_ := f1_.symm; have f5_ := f3_.symm; clear f1_ f2_ f3_; subst f4_; subst f5_))
                have p207 : 0 ≤ (0 : Int) := (by omega)
                have q207 : 0 < (t198.length : Int) := of_decide_eq_true (by first | (with_reducible assumption) | assumption)
                obtain ⟨ad207, e207, hx207_0⟩ := Kd.at_string (Kd.R_reads' HO_7.out).2.2 0 p207 q207
                cases e207
                have qi207 : (0 < t198.length) = True := eq_true (by omega)
                (try rw [show ((0 : Int)).toNat = 0 from rfl] at hx207_0)
                (try rw [Addr.add_zero'] at hx207_0)
                replace p207 := eq_true p207
                replace q207 := eq_true q207
                have p208 : 0 ≤ (1 : Int) := (by omega)
                have q208 : 1 < (t198.length : Int) := of_decide_eq_true (by first | (with_reducible assumption) | assumption)
                obtain ⟨ad208, e208, hx208_0⟩ := Kd.at_string (Kd.R_reads' HO_7.out).2.2 1 p208 q208
                obtain rfl : ad207 = ad208 := (by injection e208)
                (try simp only [show (1 : Int).toNat = 1 from rfl, Nat.reduceMul, Nat.reduceEqDiff, Go.Addr.add, ↓reduceIte] at hx208_0)
                have qi208 : (1 < t198.length) = True := eq_true (by omega)
                (try rw [show ((1 : Int)).toNat = 1 from rfl] at hx208_0)
                replace p208 := eq_true p208
                replace q208 := eq_true q208
                have p209 : 0 ≤ (2 : Int) := (by omega)
                have q209 : 2 < (t198.length : Int) := of_decide_eq_true (by first | (with_reducible assumption) | assumption)
                obtain ⟨ad209, e209, hx209_0⟩ := Kd.at_string (Kd.R_reads' HO_7.out).2.2 2 p209 q209
                obtain rfl : ad207 = ad209 := (by injection e209)
                (try simp only [show (2 : Int).toNat = 2 from rfl, Nat.reduceMul, Nat.reduceEqDiff, Go.Addr.add, ↓reduceIte] at hx209_0)
                have qi209 : (2 < t198.length) = True := eq_true (by omega)
                (try rw [show ((2 : Int)).toNat = 2 from rfl] at hx209_0)
                replace p209 := eq_true p209
                replace q209 := eq_true q209
                refine start_ (n := 15) (S := fun w' => w'.cell? ad207 = some (.string (rdOf ByteArray.empty t198 0)) ∧ w'.cell? ⟨ad207.block, ad207.off + 1, none⟩ = some (.string (rdOf ByteArray.empty t198 1)) ∧ w'.cell? ⟨ad207.block, ad207.off + 2, none⟩ = some (.string (rdOf ByteArray.empty t198 2))) (ds := []) #[false, false, false, false, false, false, false, false, false, false, false, false, false, false, false] (by kernel_rfl) rfl rfl ⟨hx207_0, hx208_0, hx209_0⟩ (fun hHeld => ?_); refine with_tabW graftwoodref03_Split.tab13 graftwoodref03_Split.bits13 (fun HT_ HW_ => ?_)
                generalize wc.drew = w45 at HO_7 BK196 BK197 HB hx207_0 hx208_0 hx209_0 hHeld ⊢
                refine pure_ (i := 0) (N := some 62) (v := ?_) (a' := ?_) #[true, false, false, false, false, false, false, false, false, false, false, false, false, false, false] rfl rfl (any_of HT_.out (by kernel_rfl)) (fun _ _ _ h => h) (Or.inl ⟨by rfl, ?_⟩) ?_ ?_
                rotate_left
                ·intro w'
                 go_simp
                 with_reducible rfl
                rotate_left
                ·simp only [Act.put, List.setIfInBounds_toArray, List.set_cons_zero, List.set_cons_succ, i64_w, i32_w]
                 rfl
                refine pure_ (i := 1) (N := some 63) (v := ?_) (a' := ?_) #[true, true, false, false, false, false, false, false, false, false, false, false, false, false, false] rfl rfl (any_of HT_.out (by kernel_rfl)) (fun _ _ _ h => h) (Or.inl ⟨by rfl, ?_⟩) ?_ ?_
                rotate_left
                ·intro w'
                 go_simp
                 with_reducible rfl
                rotate_left
                ·simp only [Act.put, List.setIfInBounds_toArray, List.set_cons_zero, List.set_cons_succ, i64_w, i32_w]
                 rfl
                refine pure_ (i := 3) (N := some 65) (v := ?_) (a' := ?_) #[true, true, false, true, false, false, false, false, false, false, false, false, false, false, false] rfl rfl (any_of HT_.out (by kernel_rfl)) (fun _ _ _ h => h) (Or.inl ⟨by rfl, ?_⟩) ?_ ?_
                rotate_left
                ·intro w'
                 go_simp
                 with_reducible rfl
                rotate_left
                ·simp only [Act.put, List.setIfInBounds_toArray, List.set_cons_zero, List.set_cons_succ, i64_w, i32_w]
                 rfl
                refine pure_ (i := 4) (N := some 66) (v := ?_) (a' := ?_) #[true, true, false, true, true, false, false, false, false, false, false, false, false, false, false] rfl rfl (any_of HT_.out (by kernel_rfl)) (fun _ _ _ h => h) (Or.inl ⟨by rfl, ?_⟩) ?_ ?_
                rotate_left
                ·intro w'
                 go_simp
                 with_reducible rfl
                rotate_left
                ·simp only [Act.put, List.setIfInBounds_toArray, List.set_cons_zero, List.set_cons_succ, i64_w, i32_w]
                 rfl
                refine pure_ (i := 6) (N := some 68) (v := ?_) (a' := ?_) #[true, true, false, true, true, false, true, false, false, false, false, false, false, false, false] rfl rfl (any_of HT_.out (by kernel_rfl)) (fun _ _ _ h => h) (Or.inl ⟨by rfl, ?_⟩) ?_ ?_
                rotate_left
                ·intro w'
                 go_simp
                 with_reducible rfl
                rotate_left
                ·simp only [Act.put, List.setIfInBounds_toArray, List.set_cons_zero, List.set_cons_succ, i64_w, i32_w]
                 rfl
                refine pure_ (i := 7) (N := some 69) (v := ?_) (a' := ?_) #[true, true, false, true, true, false, true, true, false, false, false, false, false, false, false] rfl rfl (any_of HT_.out (by kernel_rfl)) (fun _ _ _ h => h) (Or.inl ⟨by rfl, ?_⟩) ?_ ?_
                rotate_left
                ·intro w'
                 go_simp
                 with_reducible rfl
                rotate_left
                ·simp only [Act.put, List.setIfInBounds_toArray, List.set_cons_zero, List.set_cons_succ, i64_w, i32_w]
                 rfl
                refine take_ (i := 2) (N := some 64) (v := ?_) (a' := ?_) #[true, true, true, true, true, false, true, true, false, false, false, false, false, false, false] rfl rfl (take_ofW HT_.out HW_.out (by kernel_rfl)) (fun _ _ _ h => h) (Or.inl ⟨by rfl, ?_⟩) hHeld ?_ ?_
                rotate_left
                ·rintro w' ⟨s0, s1, s2⟩
                 go_simp
                 with_reducible rfl
                rotate_left
                ·simp only [Act.put, List.setIfInBounds_toArray, List.set_cons_zero, List.set_cons_succ, i64_w, i32_w]
                 rfl
                refine pure_ (i := 9) (N := some 71) (v := ?_) (a' := ?_) #[true, true, true, true, true, false, true, true, false, true, false, false, false, false, false] rfl rfl (any_of HT_.out (by kernel_rfl)) (fun _ _ _ h => h) (Or.inl ⟨by rfl, ?_⟩) ?_ ?_
                rotate_left
                ·intro w'
                 go_simp
                 with_reducible rfl
                rotate_left
                ·simp only [Act.put, List.setIfInBounds_toArray, List.set_cons_zero, List.set_cons_succ, i64_w, i32_w]
                 rfl
                refine take_ (i := 5) (N := some 67) (v := ?_) (a' := ?_) #[true, true, true, true, true, true, true, true, false, true, false, false, false, false, false] rfl rfl (take_ofW HT_.out HW_.out (by kernel_rfl)) (fun _ _ _ h => h) (Or.inl ⟨by rfl, ?_⟩) hHeld ?_ ?_
                rotate_left
                ·rintro w' ⟨s0, s1, s2⟩
                 go_simp
                 with_reducible rfl
                rotate_left
                ·simp only [Act.put, List.setIfInBounds_toArray, List.set_cons_zero, List.set_cons_succ, i64_w, i32_w]
                 rfl
                refine take_ (i := 8) (N := some 70) (v := ?_) (a' := ?_) #[true, true, true, true, true, true, true, true, true, true, false, false, false, false, false] rfl rfl (take_ofW HT_.out HW_.out (by kernel_rfl)) (fun _ _ _ h => h) (Or.inl ⟨by rfl, ?_⟩) hHeld ?_ ?_
                rotate_left
                ·rintro w' ⟨s0, s1, s2⟩
                 go_simp
                 with_reducible rfl
                rotate_left
                ·simp only [Act.put, List.setIfInBounds_toArray, List.set_cons_zero, List.set_cons_succ, i64_w, i32_w]
                 rfl
                refine one_ (i := 10) (N := none) #[true, true, true, true, true, true, true, true, true, true, true, false, false, false, false] rfl rfl (one_of HT_.out (by kernel_rfl)) (by decide) (fun K hK => ?_)
                have hs47 : w45.cell? ⟨gb197, 0, none⟩ = some (.string (⟨#[]⟩ : ByteArray)) := (blk_cell BK197.out 0).trans rfl
                have hfs47 := blk_frozen BK197.out 0
                have hns47_0 := NB196_197.out
                have hms47_0 := NB197_196.out
                refine skip_ (w1 := ?_) (by rfl) rfl ?_ ?_
                rotate_left
                ·go_simp
                 rfl
                refine hK.out _ _ ⟨((cell_far (p := ⟨gb197, _, none⟩) (by first | exact Kd.own_blk (Kd.R_ne HO_7.out BK197.out (by decide)) | (rw [add_block]; exact Kd.own_blk (Kd.R_ne HO_7.out BK197.out (by decide))) | (show (Addr.add _ _).block ≠ _; rw [add_block]; exact Kd.own_blk (Kd.R_ne HO_7.out BK197.out (by decide))) | (dsimp only; exact Kd.own_blk (Kd.R_ne HO_7.out BK197.out (by decide)))) _).trans (hHeld.1)), ((cell_far (p := ⟨gb197, _, none⟩) (by first | exact Kd.own_blk (Kd.R_ne HO_7.out BK197.out (by decide)) | (rw [add_block]; exact Kd.own_blk (Kd.R_ne HO_7.out BK197.out (by decide))) | (show (Addr.add _ _).block ≠ _; rw [add_block]; exact Kd.own_blk (Kd.R_ne HO_7.out BK197.out (by decide))) | (dsimp only; exact Kd.own_blk (Kd.R_ne HO_7.out BK197.out (by decide)))) _).trans (hHeld.2.1)), ((cell_far (p := ⟨gb197, _, none⟩) (by first | exact Kd.own_blk (Kd.R_ne HO_7.out BK197.out (by decide)) | (rw [add_block]; exact Kd.own_blk (Kd.R_ne HO_7.out BK197.out (by decide))) | (show (Addr.add _ _).block ≠ _; rw [add_block]; exact Kd.own_blk (Kd.R_ne HO_7.out BK197.out (by decide))) | (dsimp only; exact Kd.own_blk (Kd.R_ne HO_7.out BK197.out (by decide)))) _).trans (hHeld.2.2))⟩ (fun hHeld => ?_)
                clear hK K
                refine pure_ (i := 11) (N := some 72) (v := ?_) (a' := ?_) #[true, true, true, true, true, true, true, true, true, true, true, true, false, false, false] rfl rfl (any_of HT_.out (by kernel_rfl)) (fun _ _ _ h => h) (Or.inl ⟨by rfl, ?_⟩) ?_ ?_
                rotate_left
                ·intro w'
                 go_simp
                 with_reducible rfl
                rotate_left
                ·simp only [Act.put, List.setIfInBounds_toArray, List.set_cons_zero, List.set_cons_succ, i64_w, i32_w]
                 rfl
                refine one_ (i := 12) (N := none) #[true, true, true, true, true, true, true, true, true, true, true, true, true, false, false] rfl rfl (one_of HT_.out (by kernel_rfl)) (by decide) (fun K hK => ?_)
                have hs48 : w45.cell? ⟨gb197, 1, none⟩ = some (.string (⟨#[]⟩ : ByteArray)) := (blk_cell BK197.out 1).trans rfl
                have hfs48 := blk_frozen BK197.out 1
                have hns48_0 := NB196_197.out
                have hms48_0 := NB197_196.out
                refine skip_ (w1 := ?_) (by rfl) rfl ?_ ?_
                rotate_left
                ·go_simp
                 rfl
                refine hK.out _ _ ⟨((cell_far (p := ⟨gb197, _, none⟩) (by first | exact Kd.own_blk (Kd.R_ne HO_7.out BK197.out (by decide)) | (rw [add_block]; exact Kd.own_blk (Kd.R_ne HO_7.out BK197.out (by decide))) | (show (Addr.add _ _).block ≠ _; rw [add_block]; exact Kd.own_blk (Kd.R_ne HO_7.out BK197.out (by decide))) | (dsimp only; exact Kd.own_blk (Kd.R_ne HO_7.out BK197.out (by decide)))) _).trans (hHeld.1)), ((cell_far (p := ⟨gb197, _, none⟩) (by first | exact Kd.own_blk (Kd.R_ne HO_7.out BK197.out (by decide)) | (rw [add_block]; exact Kd.own_blk (Kd.R_ne HO_7.out BK197.out (by decide))) | (show (Addr.add _ _).block ≠ _; rw [add_block]; exact Kd.own_blk (Kd.R_ne HO_7.out BK197.out (by decide))) | (dsimp only; exact Kd.own_blk (Kd.R_ne HO_7.out BK197.out (by decide)))) _).trans (hHeld.2.1)), ((cell_far (p := ⟨gb197, _, none⟩) (by first | exact Kd.own_blk (Kd.R_ne HO_7.out BK197.out (by decide)) | (rw [add_block]; exact Kd.own_blk (Kd.R_ne HO_7.out BK197.out (by decide))) | (show (Addr.add _ _).block ≠ _; rw [add_block]; exact Kd.own_blk (Kd.R_ne HO_7.out BK197.out (by decide))) | (dsimp only; exact Kd.own_blk (Kd.R_ne HO_7.out BK197.out (by decide)))) _).trans (hHeld.2.2))⟩ (fun hHeld => ?_)
                clear hK K
                refine pure_ (i := 13) (N := some 73) (v := ?_) (a' := ?_) #[true, true, true, true, true, true, true, true, true, true, true, true, true, true, false] rfl rfl (any_of HT_.out (by kernel_rfl)) (fun _ _ _ h => h) (Or.inl ⟨by rfl, ?_⟩) ?_ ?_
                rotate_left
                ·intro w'
                 go_simp
                 with_reducible rfl
                rotate_left
                ·simp only [Act.put, List.setIfInBounds_toArray, List.set_cons_zero, List.set_cons_succ, i64_w, i32_w]
                 rfl
                refine one_ (i := 14) (N := none) #[true, true, true, true, true, true, true, true, true, true, true, true, true, true, true] rfl rfl (one_of HT_.out (by kernel_rfl)) (by decide) (fun K hK => ?_)
                have hs49 : w45.cell? ⟨gb197, 2, none⟩ = some (.string (⟨#[]⟩ : ByteArray)) := (blk_cell BK197.out 2).trans rfl
                have hfs49 := blk_frozen BK197.out 2
                have hns49_0 := NB196_197.out
                have hms49_0 := NB197_196.out
                refine skip_ (w1 := ?_) (by rfl) rfl ?_ ?_
                rotate_left
                ·go_simp
                 rfl
                refine hK.out _ _ ⟨((cell_far (p := ⟨gb197, _, none⟩) (by first | exact Kd.own_blk (Kd.R_ne HO_7.out BK197.out (by decide)) | (rw [add_block]; exact Kd.own_blk (Kd.R_ne HO_7.out BK197.out (by decide))) | (show (Addr.add _ _).block ≠ _; rw [add_block]; exact Kd.own_blk (Kd.R_ne HO_7.out BK197.out (by decide))) | (dsimp only; exact Kd.own_blk (Kd.R_ne HO_7.out BK197.out (by decide)))) _).trans (hHeld.1)), ((cell_far (p := ⟨gb197, _, none⟩) (by first | exact Kd.own_blk (Kd.R_ne HO_7.out BK197.out (by decide)) | (rw [add_block]; exact Kd.own_blk (Kd.R_ne HO_7.out BK197.out (by decide))) | (show (Addr.add _ _).block ≠ _; rw [add_block]; exact Kd.own_blk (Kd.R_ne HO_7.out BK197.out (by decide))) | (dsimp only; exact Kd.own_blk (Kd.R_ne HO_7.out BK197.out (by decide)))) _).trans (hHeld.2.1)), ((cell_far (p := ⟨gb197, _, none⟩) (by first | exact Kd.own_blk (Kd.R_ne HO_7.out BK197.out (by decide)) | (rw [add_block]; exact Kd.own_blk (Kd.R_ne HO_7.out BK197.out (by decide))) | (show (Addr.add _ _).block ≠ _; rw [add_block]; exact Kd.own_blk (Kd.R_ne HO_7.out BK197.out (by decide))) | (dsimp only; exact Kd.own_blk (Kd.R_ne HO_7.out BK197.out (by decide)))) _).trans (hHeld.2.2))⟩ (fun hHeld => ?_)
                clear hK K
                refine done_ (done_of HT_.out (by kernel_rfl)) ?_
                have hnb50 := NB197_196.out
                have hnc50 := NB196_197.out
                have hcz51_0 : w45.cell? ⟨gb197, 0, none⟩ = some (.string (⟨#[]⟩ : ByteArray)) := (blk_cell BK197.out 0).trans rfl
                have hcz51_1 : w45.cell? ⟨gb197, 1, none⟩ = some (.string (⟨#[]⟩ : ByteArray)) := (blk_cell BK197.out 1).trans rfl
                have hcz51_2 : w45.cell? ⟨gb197, 2, none⟩ = some (.string (⟨#[]⟩ : ByteArray)) := (blk_cell BK197.out 2).trans rfl
                have hcz51_3 : w45.cell? ⟨gb197, 3, none⟩ = some (.slice none 0 0) := (blk_cell BK197.out 3).trans rfl
                have hfz51_0 := blk_frozen BK197.out 0
                have hfz51_1 := blk_frozen BK197.out 1
                have hfz51_2 := blk_frozen BK197.out 2
                have hfz51_3 := blk_frozen BK197.out 3
                have hcz52_0 : w45.cell? ⟨gb196, 0, none⟩ = some (.string (⟨#[]⟩ : ByteArray)) := (blk_cell BK196.out 0).trans rfl
                have hcz52_1 : w45.cell? ⟨gb196, 1, none⟩ = some (.string (⟨#[]⟩ : ByteArray)) := (blk_cell BK196.out 1).trans rfl
                have hcz52_2 : w45.cell? ⟨gb196, 2, none⟩ = some (.string (⟨#[]⟩ : ByteArray)) := (blk_cell BK196.out 2).trans rfl
                have hcz52_3 : w45.cell? ⟨gb196, 3, none⟩ = some (.slice none 0 0) := (blk_cell BK196.out 3).trans rfl
                have hfz52_0 := blk_frozen BK196.out 0
                have hfz52_1 := blk_frozen BK196.out 1
                have hfz52_2 := blk_frozen BK196.out 2
                have hfz52_3 := blk_frozen BK196.out 3
                try go_wp2
                refine bodyPost_ret (results_ct rfl _ _ gb196 64 #[.string (rdOf ByteArray.empty t198 0), .string (rdOf ByteArray.empty t198 1), .string (rdOf ByteArray.empty t198 2), .slice none 0 0] (0, 0) _ rfl (by (with_reducible repeat (first | refine blk_drewN ?_ _ | refine blk_drew ?_ | refine blk_alloc ?_ _)); refine blk_put (cs := #[.string (rdOf ByteArray.empty t198 0), .string (rdOf ByteArray.empty t198 1), .string (rdOf ByteArray.empty t198 2), .slice none 0 0]) ?_ 3 _ rfl; (with_reducible repeat (first | refine blk_drewN ?_ _ | refine blk_drew ?_ | refine blk_alloc ?_ _)); refine blk_put (cs := #[.string (rdOf ByteArray.empty t198 0), .string (rdOf ByteArray.empty t198 1), .string (⟨#[]⟩ : ByteArray), .slice none 0 0]) ?_ 2 _ rfl; (with_reducible repeat (first | refine blk_drewN ?_ _ | refine blk_drew ?_ | refine blk_alloc ?_ _)); refine blk_put (cs := #[.string (rdOf ByteArray.empty t198 0), .string (⟨#[]⟩ : ByteArray), .string (⟨#[]⟩ : ByteArray), .slice none 0 0]) ?_ 1 _ rfl; (with_reducible repeat (first | refine blk_drewN ?_ _ | refine blk_drew ?_ | refine blk_alloc ?_ _)); refine blk_put (cs := #[.string (⟨#[]⟩ : ByteArray), .string (⟨#[]⟩ : ByteArray), .string (⟨#[]⟩ : ByteArray), .slice none 0 0]) ?_ 0 _ rfl; (with_reducible repeat (first | refine blk_drewN ?_ _ | refine blk_drew ?_ | refine blk_alloc ?_ _)); refine blk_far ?_ NB196_197.out _; (with_reducible repeat (first | refine blk_drewN ?_ _ | refine blk_drew ?_ | refine blk_alloc ?_ _)); refine blk_far ?_ NB196_197.out _; (with_reducible repeat (first | refine blk_drewN ?_ _ | refine blk_drew ?_ | refine blk_alloc ?_ _)); refine blk_far ?_ NB196_197.out _; (with_reducible repeat (first | refine blk_drewN ?_ _ | refine blk_drew ?_ | refine blk_alloc ?_ _)); exact BK196.out) Tryd.underlying64 rfl (by kernel_rfl)) rfl ?_
                exact ⟨_, by first | rfl | (simp [errW_none, errW_some] <;> rfl) | (simp [*, errW_none, errW_some] <;> rfl), by first | exact Kd.R_nil _ _ _ _ _ | exact Kd.N_nil _ _ _ _ _ | exact Kd.V_nil _ _ _ _ _ | exact Kd.Q_nil _ _ _ _ _ | exact Kd.S_nil _ _ _ _ _, by repeat (first | (with_reducible first | exact HB.out | apply below_alloc | apply pw_below_drewN | apply below_drew1 | refine below_set ?_ GE196.out | refine below_set ?_ GE197.out) | exact HB.out)⟩
               ·rw [if_neg c44] at H
                have c44b0 : (x5_2 == (a0.size : Int)) = false := beq_eq_false_iff_ne.mpr c44
                have c44b1 : (x5_2 != (a0.size : Int)) = true := bne_iff_ne.mpr c44
                obtain ⟨ji53, hji53⟩ : ∃ j_ : Int, (wrap64 (x5_2 + 1)) = j_ := ⟨_, rfl⟩
                replace H : (if 0 ≤ (ji53) then (if (ji53) ≤ (a0.size : Int) then ((graftwoodref01_Parts.f kj21 (a0.extract ((ji53) : Int).toNat a0.size) 46).bind fun t210 => (graftwoodref03_Split.l1 kj21 0 (rdOf ByteArray.empty t198 0) (rdOf ByteArray.empty t198 1) (rdOf ByteArray.empty t198 2) t210)) else (none)) else (none)) = some (r1, r2, r3, r4, r5) := by first | (rw [hji53] at H; exact H) | (simp only [hji53] at H ⊢; exact H)
                have hji53w : (IntKind.i64.wrap (x5_2 + 1)) = ji53 := (i64_w _).trans hji53
                by_cases c54 : 0 ≤ (ji53)
                ·rw [if_pos c54] at H
                 have c54b0 := eq_true c54
                 have c54b1 : decide (0 ≤ (ji53)) = true := decide_eq_true c54
                 clear c54
                 by_cases c55 : (ji53) ≤ (a0.size : Int)
                 ·rw [if_pos c55] at H
                  have c55b0 := eq_true c55
                  have c55b1 : decide ((ji53) ≤ (a0.size : Int)) = true := decide_eq_true c55
                  clear c55
                  replace H := Option.bind_eq_some_iff.mp H
                  obtain ⟨t210, A560, H⟩ := H
                  replace H : (graftwoodref03_Split.l1 kj21 0 (rdOf ByteArray.empty t198 0) (rdOf ByteArray.empty t198 1) (rdOf ByteArray.empty t198 2) t210) = some (r1, r2, r3, r4, r5) := H
                  have A56 := Aside0.mk A560
                  clear A560
                  have H' := Aside0.mk H
                  clear H
                  try go_wp2
                  have n0_ := Aside0.mk (Kd.R_drew HO_7.out)
                  have n1_ := Aside0.mk (blk_drew BK196.out)
                  have n2_ := Aside0.mk (blk_drew BK197.out)
                  have n3_ := Aside0.mk (below_drew1 HB.out)
                  clear HO_7 BK196 BK197 HB
                  have HO_7 := n0_
                  have BK196 := n1_
                  have BK197 := n2_
                  have HB := n3_
                  clear n0_ n1_ n2_ n3_
                  obtain ⟨Ao58, co58, eo58⟩ := Kd.R_slice HO_7.out
                  (first | subst eo58 | (injection eo58 with f1_ f2_ f3_; have f4_ := f1_.symm; have f5_ := f3_.symm; clear f1_ f2_ f3_; subst f4_; subst f5_))
                  have p207 : 0 ≤ (0 : Int) := (by omega)
                  have q207 : 0 < (t198.length : Int) := of_decide_eq_true (by first | (with_reducible assumption) | assumption)
                  obtain ⟨ad207, e207, hx207_0⟩ := Kd.at_string (Kd.R_reads' HO_7.out).2.2 0 p207 q207
                  cases e207
                  have qi207 : (0 < t198.length) = True := eq_true (by omega)
                  (try rw [show ((0 : Int)).toNat = 0 from rfl] at hx207_0)
                  (try rw [Addr.add_zero'] at hx207_0)
                  replace p207 := eq_true p207
                  replace q207 := eq_true q207
                  have p208 : 0 ≤ (1 : Int) := (by omega)
                  have q208 : 1 < (t198.length : Int) := of_decide_eq_true (by first | (with_reducible assumption) | assumption)
                  obtain ⟨ad208, e208, hx208_0⟩ := Kd.at_string (Kd.R_reads' HO_7.out).2.2 1 p208 q208
                  obtain rfl : ad207 = ad208 := (by injection e208)
                  (try simp only [show (1 : Int).toNat = 1 from rfl, Nat.reduceMul, Nat.reduceEqDiff, Go.Addr.add, ↓reduceIte] at hx208_0)
                  have qi208 : (1 < t198.length) = True := eq_true (by omega)
                  (try rw [show ((1 : Int)).toNat = 1 from rfl] at hx208_0)
                  replace p208 := eq_true p208
                  replace q208 := eq_true q208
                  have p209 : 0 ≤ (2 : Int) := (by omega)
                  have q209 : 2 < (t198.length : Int) := of_decide_eq_true (by first | (with_reducible assumption) | assumption)
                  obtain ⟨ad209, e209, hx209_0⟩ := Kd.at_string (Kd.R_reads' HO_7.out).2.2 2 p209 q209
                  obtain rfl : ad207 = ad209 := (by injection e209)
                  (try simp only [show (2 : Int).toNat = 2 from rfl, Nat.reduceMul, Nat.reduceEqDiff, Go.Addr.add, ↓reduceIte] at hx209_0)
                  have qi209 : (2 < t198.length) = True := eq_true (by omega)
                  (try rw [show ((2 : Int)).toNat = 2 from rfl] at hx209_0)
                  replace p209 := eq_true p209
                  replace q209 := eq_true q209
                  refine start_ (n := 15) (S := fun w' => w'.cell? ad207 = some (.string (rdOf ByteArray.empty t198 0)) ∧ w'.cell? ⟨ad207.block, ad207.off + 1, none⟩ = some (.string (rdOf ByteArray.empty t198 1)) ∧ w'.cell? ⟨ad207.block, ad207.off + 2, none⟩ = some (.string (rdOf ByteArray.empty t198 2))) (ds := []) #[false, false, false, false, false, false, false, false, false, false, false, false, false, false, false] (by kernel_rfl) rfl rfl ⟨hx207_0, hx208_0, hx209_0⟩ (fun hHeld => ?_); refine with_tabW graftwoodref03_Split.tab13 graftwoodref03_Split.bits13 (fun HT_ HW_ => ?_)
                  generalize wc.drew = w57 at HO_7 BK196 BK197 HB hx207_0 hx208_0 hx209_0 hHeld ⊢
                  refine pure_ (i := 0) (N := some 62) (v := ?_) (a' := ?_) #[true, false, false, false, false, false, false, false, false, false, false, false, false, false, false] rfl rfl (any_of HT_.out (by kernel_rfl)) (fun _ _ _ h => h) (Or.inl ⟨by rfl, ?_⟩) ?_ ?_
                  rotate_left
                  ·intro w'
                   go_simp
                   with_reducible rfl
                  rotate_left
                  ·simp only [Act.put, List.setIfInBounds_toArray, List.set_cons_zero, List.set_cons_succ, i64_w, i32_w]
                   rfl
                  refine pure_ (i := 1) (N := some 63) (v := ?_) (a' := ?_) #[true, true, false, false, false, false, false, false, false, false, false, false, false, false, false] rfl rfl (any_of HT_.out (by kernel_rfl)) (fun _ _ _ h => h) (Or.inl ⟨by rfl, ?_⟩) ?_ ?_
                  rotate_left
                  ·intro w'
                   go_simp
                   with_reducible rfl
                  rotate_left
                  ·simp only [Act.put, List.setIfInBounds_toArray, List.set_cons_zero, List.set_cons_succ, i64_w, i32_w]
                   rfl
                  refine pure_ (i := 3) (N := some 65) (v := ?_) (a' := ?_) #[true, true, false, true, false, false, false, false, false, false, false, false, false, false, false] rfl rfl (any_of HT_.out (by kernel_rfl)) (fun _ _ _ h => h) (Or.inl ⟨by rfl, ?_⟩) ?_ ?_
                  rotate_left
                  ·intro w'
                   go_simp
                   with_reducible rfl
                  rotate_left
                  ·simp only [Act.put, List.setIfInBounds_toArray, List.set_cons_zero, List.set_cons_succ, i64_w, i32_w]
                   rfl
                  refine pure_ (i := 4) (N := some 66) (v := ?_) (a' := ?_) #[true, true, false, true, true, false, false, false, false, false, false, false, false, false, false] rfl rfl (any_of HT_.out (by kernel_rfl)) (fun _ _ _ h => h) (Or.inl ⟨by rfl, ?_⟩) ?_ ?_
                  rotate_left
                  ·intro w'
                   go_simp
                   with_reducible rfl
                  rotate_left
                  ·simp only [Act.put, List.setIfInBounds_toArray, List.set_cons_zero, List.set_cons_succ, i64_w, i32_w]
                   rfl
                  refine pure_ (i := 6) (N := some 68) (v := ?_) (a' := ?_) #[true, true, false, true, true, false, true, false, false, false, false, false, false, false, false] rfl rfl (any_of HT_.out (by kernel_rfl)) (fun _ _ _ h => h) (Or.inl ⟨by rfl, ?_⟩) ?_ ?_
                  rotate_left
                  ·intro w'
                   go_simp
                   with_reducible rfl
                  rotate_left
                  ·simp only [Act.put, List.setIfInBounds_toArray, List.set_cons_zero, List.set_cons_succ, i64_w, i32_w]
                   rfl
                  refine pure_ (i := 7) (N := some 69) (v := ?_) (a' := ?_) #[true, true, false, true, true, false, true, true, false, false, false, false, false, false, false] rfl rfl (any_of HT_.out (by kernel_rfl)) (fun _ _ _ h => h) (Or.inl ⟨by rfl, ?_⟩) ?_ ?_
                  rotate_left
                  ·intro w'
                   go_simp
                   with_reducible rfl
                  rotate_left
                  ·simp only [Act.put, List.setIfInBounds_toArray, List.set_cons_zero, List.set_cons_succ, i64_w, i32_w]
                   rfl
                  refine take_ (i := 2) (N := some 64) (v := ?_) (a' := ?_) #[true, true, true, true, true, false, true, true, false, false, false, false, false, false, false] rfl rfl (take_ofW HT_.out HW_.out (by kernel_rfl)) (fun _ _ _ h => h) (Or.inl ⟨by rfl, ?_⟩) hHeld ?_ ?_
                  rotate_left
                  ·rintro w' ⟨s0, s1, s2⟩
                   go_simp
                   with_reducible rfl
                  rotate_left
                  ·simp only [Act.put, List.setIfInBounds_toArray, List.set_cons_zero, List.set_cons_succ, i64_w, i32_w]
                   rfl
                  refine pure_ (i := 9) (N := some 71) (v := ?_) (a' := ?_) #[true, true, true, true, true, false, true, true, false, true, false, false, false, false, false] rfl rfl (any_of HT_.out (by kernel_rfl)) (fun _ _ _ h => h) (Or.inl ⟨by rfl, ?_⟩) ?_ ?_
                  rotate_left
                  ·intro w'
                   go_simp
                   with_reducible rfl
                  rotate_left
                  ·simp only [Act.put, List.setIfInBounds_toArray, List.set_cons_zero, List.set_cons_succ, i64_w, i32_w]
                   rfl
                  refine take_ (i := 5) (N := some 67) (v := ?_) (a' := ?_) #[true, true, true, true, true, true, true, true, false, true, false, false, false, false, false] rfl rfl (take_ofW HT_.out HW_.out (by kernel_rfl)) (fun _ _ _ h => h) (Or.inl ⟨by rfl, ?_⟩) hHeld ?_ ?_
                  rotate_left
                  ·rintro w' ⟨s0, s1, s2⟩
                   go_simp
                   with_reducible rfl
                  rotate_left
                  ·simp only [Act.put, List.setIfInBounds_toArray, List.set_cons_zero, List.set_cons_succ, i64_w, i32_w]
                   rfl
                  refine take_ (i := 8) (N := some 70) (v := ?_) (a' := ?_) #[true, true, true, true, true, true, true, true, true, true, false, false, false, false, false] rfl rfl (take_ofW HT_.out HW_.out (by kernel_rfl)) (fun _ _ _ h => h) (Or.inl ⟨by rfl, ?_⟩) hHeld ?_ ?_
                  rotate_left
                  ·rintro w' ⟨s0, s1, s2⟩
                   go_simp
                   with_reducible rfl
                  rotate_left
                  ·simp only [Act.put, List.setIfInBounds_toArray, List.set_cons_zero, List.set_cons_succ, i64_w, i32_w]
                   rfl
                  refine one_ (i := 10) (N := none) #[true, true, true, true, true, true, true, true, true, true, true, false, false, false, false] rfl rfl (one_of HT_.out (by kernel_rfl)) (by decide) (fun K hK => ?_)
                  have hs59 : w57.cell? ⟨gb197, 0, none⟩ = some (.string (⟨#[]⟩ : ByteArray)) := (blk_cell BK197.out 0).trans rfl
                  have hfs59 := blk_frozen BK197.out 0
                  have hns59_0 := NB196_197.out
                  have hms59_0 := NB197_196.out
                  refine skip_ (w1 := ?_) (by rfl) rfl ?_ ?_
                  rotate_left
                  ·go_simp
                   rfl
                  refine hK.out _ _ ⟨((cell_far (p := ⟨gb197, _, none⟩) (by first | exact Kd.own_blk (Kd.R_ne HO_7.out BK197.out (by decide)) | (rw [add_block]; exact Kd.own_blk (Kd.R_ne HO_7.out BK197.out (by decide))) | (show (Addr.add _ _).block ≠ _; rw [add_block]; exact Kd.own_blk (Kd.R_ne HO_7.out BK197.out (by decide))) | (dsimp only; exact Kd.own_blk (Kd.R_ne HO_7.out BK197.out (by decide)))) _).trans (hHeld.1)), ((cell_far (p := ⟨gb197, _, none⟩) (by first | exact Kd.own_blk (Kd.R_ne HO_7.out BK197.out (by decide)) | (rw [add_block]; exact Kd.own_blk (Kd.R_ne HO_7.out BK197.out (by decide))) | (show (Addr.add _ _).block ≠ _; rw [add_block]; exact Kd.own_blk (Kd.R_ne HO_7.out BK197.out (by decide))) | (dsimp only; exact Kd.own_blk (Kd.R_ne HO_7.out BK197.out (by decide)))) _).trans (hHeld.2.1)), ((cell_far (p := ⟨gb197, _, none⟩) (by first | exact Kd.own_blk (Kd.R_ne HO_7.out BK197.out (by decide)) | (rw [add_block]; exact Kd.own_blk (Kd.R_ne HO_7.out BK197.out (by decide))) | (show (Addr.add _ _).block ≠ _; rw [add_block]; exact Kd.own_blk (Kd.R_ne HO_7.out BK197.out (by decide))) | (dsimp only; exact Kd.own_blk (Kd.R_ne HO_7.out BK197.out (by decide)))) _).trans (hHeld.2.2))⟩ (fun hHeld => ?_)
                  clear hK K
                  refine pure_ (i := 11) (N := some 72) (v := ?_) (a' := ?_) #[true, true, true, true, true, true, true, true, true, true, true, true, false, false, false] rfl rfl (any_of HT_.out (by kernel_rfl)) (fun _ _ _ h => h) (Or.inl ⟨by rfl, ?_⟩) ?_ ?_
                  rotate_left
                  ·intro w'
                   go_simp
                   with_reducible rfl
                  rotate_left
                  ·simp only [Act.put, List.setIfInBounds_toArray, List.set_cons_zero, List.set_cons_succ, i64_w, i32_w]
                   rfl
                  refine one_ (i := 12) (N := none) #[true, true, true, true, true, true, true, true, true, true, true, true, true, false, false] rfl rfl (one_of HT_.out (by kernel_rfl)) (by decide) (fun K hK => ?_)
                  have hs60 : w57.cell? ⟨gb197, 1, none⟩ = some (.string (⟨#[]⟩ : ByteArray)) := (blk_cell BK197.out 1).trans rfl
                  have hfs60 := blk_frozen BK197.out 1
                  have hns60_0 := NB196_197.out
                  have hms60_0 := NB197_196.out
                  refine skip_ (w1 := ?_) (by rfl) rfl ?_ ?_
                  rotate_left
                  ·go_simp
                   rfl
                  refine hK.out _ _ ⟨((cell_far (p := ⟨gb197, _, none⟩) (by first | exact Kd.own_blk (Kd.R_ne HO_7.out BK197.out (by decide)) | (rw [add_block]; exact Kd.own_blk (Kd.R_ne HO_7.out BK197.out (by decide))) | (show (Addr.add _ _).block ≠ _; rw [add_block]; exact Kd.own_blk (Kd.R_ne HO_7.out BK197.out (by decide))) | (dsimp only; exact Kd.own_blk (Kd.R_ne HO_7.out BK197.out (by decide)))) _).trans (hHeld.1)), ((cell_far (p := ⟨gb197, _, none⟩) (by first | exact Kd.own_blk (Kd.R_ne HO_7.out BK197.out (by decide)) | (rw [add_block]; exact Kd.own_blk (Kd.R_ne HO_7.out BK197.out (by decide))) | (show (Addr.add _ _).block ≠ _; rw [add_block]; exact Kd.own_blk (Kd.R_ne HO_7.out BK197.out (by decide))) | (dsimp only; exact Kd.own_blk (Kd.R_ne HO_7.out BK197.out (by decide)))) _).trans (hHeld.2.1)), ((cell_far (p := ⟨gb197, _, none⟩) (by first | exact Kd.own_blk (Kd.R_ne HO_7.out BK197.out (by decide)) | (rw [add_block]; exact Kd.own_blk (Kd.R_ne HO_7.out BK197.out (by decide))) | (show (Addr.add _ _).block ≠ _; rw [add_block]; exact Kd.own_blk (Kd.R_ne HO_7.out BK197.out (by decide))) | (dsimp only; exact Kd.own_blk (Kd.R_ne HO_7.out BK197.out (by decide)))) _).trans (hHeld.2.2))⟩ (fun hHeld => ?_)
                  clear hK K
                  refine pure_ (i := 13) (N := some 73) (v := ?_) (a' := ?_) #[true, true, true, true, true, true, true, true, true, true, true, true, true, true, false] rfl rfl (any_of HT_.out (by kernel_rfl)) (fun _ _ _ h => h) (Or.inl ⟨by rfl, ?_⟩) ?_ ?_
                  rotate_left
                  ·intro w'
                   go_simp
                   with_reducible rfl
                  rotate_left
                  ·simp only [Act.put, List.setIfInBounds_toArray, List.set_cons_zero, List.set_cons_succ, i64_w, i32_w]
                   rfl
                  refine one_ (i := 14) (N := none) #[true, true, true, true, true, true, true, true, true, true, true, true, true, true, true] rfl rfl (one_of HT_.out (by kernel_rfl)) (by decide) (fun K hK => ?_)
                  have hs61 : w57.cell? ⟨gb197, 2, none⟩ = some (.string (⟨#[]⟩ : ByteArray)) := (blk_cell BK197.out 2).trans rfl
                  have hfs61 := blk_frozen BK197.out 2
                  have hns61_0 := NB196_197.out
                  have hms61_0 := NB197_196.out
                  refine skip_ (w1 := ?_) (by rfl) rfl ?_ ?_
                  rotate_left
                  ·go_simp
                   rfl
                  refine hK.out _ _ ⟨((cell_far (p := ⟨gb197, _, none⟩) (by first | exact Kd.own_blk (Kd.R_ne HO_7.out BK197.out (by decide)) | (rw [add_block]; exact Kd.own_blk (Kd.R_ne HO_7.out BK197.out (by decide))) | (show (Addr.add _ _).block ≠ _; rw [add_block]; exact Kd.own_blk (Kd.R_ne HO_7.out BK197.out (by decide))) | (dsimp only; exact Kd.own_blk (Kd.R_ne HO_7.out BK197.out (by decide)))) _).trans (hHeld.1)), ((cell_far (p := ⟨gb197, _, none⟩) (by first | exact Kd.own_blk (Kd.R_ne HO_7.out BK197.out (by decide)) | (rw [add_block]; exact Kd.own_blk (Kd.R_ne HO_7.out BK197.out (by decide))) | (show (Addr.add _ _).block ≠ _; rw [add_block]; exact Kd.own_blk (Kd.R_ne HO_7.out BK197.out (by decide))) | (dsimp only; exact Kd.own_blk (Kd.R_ne HO_7.out BK197.out (by decide)))) _).trans (hHeld.2.1)), ((cell_far (p := ⟨gb197, _, none⟩) (by first | exact Kd.own_blk (Kd.R_ne HO_7.out BK197.out (by decide)) | (rw [add_block]; exact Kd.own_blk (Kd.R_ne HO_7.out BK197.out (by decide))) | (show (Addr.add _ _).block ≠ _; rw [add_block]; exact Kd.own_blk (Kd.R_ne HO_7.out BK197.out (by decide))) | (dsimp only; exact Kd.own_blk (Kd.R_ne HO_7.out BK197.out (by decide)))) _).trans (hHeld.2.2))⟩ (fun hHeld => ?_)
                  clear hK K
                  refine done_ (done_of HT_.out (by kernel_rfl)) ?_
                  try go_wp2_with (first | ((with_reducible refine gate_callee (f := 34) rfl ?_); refine goesL_ (some 83) rfl rfl Tryd.func34 (by kernel_rfl) rfl #[.string (a0.extract ((ji53) : Int).toNat a0.size), .int .u8 46] rfl (by (try simp only [List.map_toArray, List.map_cons, List.map_nil]); first | done | (simp only [hji53]; rfl) | rfl | (simp only [List.length_drop, List.length_take]; rfl)) ?_; (with_reducible refine (graftwoodref01_Parts.calls kj21 (a0.extract ((ji53) : Int).toNat a0.size) 46 t210 _ A56.out).mono ?_); rintro e w62 ⟨v211, rfl, ho0, hb⟩; refine ⟨_, rfl, ?_⟩; have n0_ := Aside0.mk (Kd.R_elder' (by (with_reducible repeat (first | apply Kd.R_alloc | apply Kd.R_drewN | apply Kd.R_drew)); exact (Kd.R_mono (Kd.R_far (p := ⟨gb197, 2, none⟩) (Kd.R_far (p := ⟨gb197, 1, none⟩) (Kd.R_far (p := ⟨gb197, 0, none⟩) (Kd.R_types HO_7.out BK197.out (by decide)) (fun _ hk => hk.2) (.string (rdOf ByteArray.empty t198 0))) (fun _ hk => hk.2) (.string (rdOf ByteArray.empty t198 1))) (fun _ hk => hk.2) (.string (rdOf ByteArray.empty t198 2))) (fun _ h_ => h_.1))) (Kd.R_base ho0) hb); have n1_ := Aside0.mk (Kd.R_lower (Kd.R_new' ho0 (Kd.R_lt (by (with_reducible repeat (first | apply Kd.R_alloc | apply Kd.R_drewN | apply Kd.R_drew)); exact (Kd.R_mono (Kd.R_far (p := ⟨gb197, 2, none⟩) (Kd.R_far (p := ⟨gb197, 1, none⟩) (Kd.R_far (p := ⟨gb197, 0, none⟩) (Kd.R_types HO_7.out BK197.out (by decide)) (fun _ hk => hk.2) (.string (rdOf ByteArray.empty t198 0))) (fun _ hk => hk.2) (.string (rdOf ByteArray.empty t198 1))) (fun _ hk => hk.2) (.string (rdOf ByteArray.empty t198 2))) (fun _ h_ => h_.1))))) (below_size (by repeat (first | (with_reducible first | exact HB.out | apply below_alloc | apply pw_below_drewN | apply below_drew1 | refine below_set ?_ GE196.out | refine below_set ?_ GE197.out) | exact HB.out)))); have n2_ := Aside0.mk (blk_below (g := gb196) (o := .cells #[.string (⟨#[]⟩ : ByteArray), .string (⟨#[]⟩ : ByteArray), .string (⟨#[]⟩ : ByteArray), .slice none 0 0] 64 (0, 0)) (by (with_reducible repeat (first | refine blk_drewN ?_ _ | refine blk_drew ?_ | refine blk_alloc ?_ _)); refine blk_far ?_ NB196_197.out _; (with_reducible repeat (first | refine blk_drewN ?_ _ | refine blk_drew ?_ | refine blk_alloc ?_ _)); refine blk_far ?_ NB196_197.out _; (with_reducible repeat (first | refine blk_drewN ?_ _ | refine blk_drew ?_ | refine blk_alloc ?_ _)); refine blk_far ?_ NB196_197.out _; (with_reducible repeat (first | refine blk_drewN ?_ _ | refine blk_drew ?_ | refine blk_alloc ?_ _)); exact BK196.out) hb); have n3_ := Aside0.mk (blk_below (g := gb197) (o := .cells #[.string (rdOf ByteArray.empty t198 0), .string (rdOf ByteArray.empty t198 1), .string (rdOf ByteArray.empty t198 2), .slice none 0 0] 64 (0, 0)) (by (with_reducible repeat (first | refine blk_drewN ?_ _ | refine blk_drew ?_ | refine blk_alloc ?_ _)); refine blk_put (cs := #[.string (rdOf ByteArray.empty t198 0), .string (rdOf ByteArray.empty t198 1), .string (⟨#[]⟩ : ByteArray), .slice none 0 0]) ?_ 2 _ rfl; (with_reducible repeat (first | refine blk_drewN ?_ _ | refine blk_drew ?_ | refine blk_alloc ?_ _)); refine blk_put (cs := #[.string (rdOf ByteArray.empty t198 0), .string (⟨#[]⟩ : ByteArray), .string (⟨#[]⟩ : ByteArray), .slice none 0 0]) ?_ 1 _ rfl; (with_reducible repeat (first | refine blk_drewN ?_ _ | refine blk_drew ?_ | refine blk_alloc ?_ _)); refine blk_put (cs := #[.string (⟨#[]⟩ : ByteArray), .string (⟨#[]⟩ : ByteArray), .string (⟨#[]⟩ : ByteArray), .slice none 0 0]) ?_ 0 _ rfl; (with_reducible repeat (first | refine blk_drewN ?_ _ | refine blk_drew ?_ | refine blk_alloc ?_ _)); exact BK197.out) hb); have n4_ := Aside0.mk (below_step (by repeat (first | (with_reducible first | exact HB.out | apply below_alloc | apply pw_below_drewN | apply below_drew1 | refine below_set ?_ GE196.out | refine below_set ?_ GE197.out) | exact HB.out)) hb); clear HO_7; clear BK196; clear BK197; clear HB; have HO_7 := n0_; have HO212 := n1_; have BK196 := n2_; have BK197 := n3_; have HB := n4_; clear n0_ n1_ n2_ n3_ n4_; (try clear hb); (try clear hb2); (try clear hk); (try clear hi); (try clear ho0); obtain ⟨Ao63, co63, eo63⟩ := Kd.R_slice HO212.out; subst eo63; have hnb64 := NB197_196.out; have hnc64 := NB196_197.out; have hcz65_0 : w62.cell? ⟨gb197, 0, none⟩ = some (.string (rdOf ByteArray.empty t198 0)) := (blk_cell BK197.out 0).trans rfl; have hcz65_1 : w62.cell? ⟨gb197, 1, none⟩ = some (.string (rdOf ByteArray.empty t198 1)) := (blk_cell BK197.out 1).trans rfl; have hcz65_2 : w62.cell? ⟨gb197, 2, none⟩ = some (.string (rdOf ByteArray.empty t198 2)) := (blk_cell BK197.out 2).trans rfl; have hcz65_3 : w62.cell? ⟨gb197, 3, none⟩ = some (.slice none 0 0) := (blk_cell BK197.out 3).trans rfl; have hfz65_0 := blk_frozen BK197.out 0; have hfz65_1 := blk_frozen BK197.out 1; have hfz65_2 := blk_frozen BK197.out 2; have hfz65_3 := blk_frozen BK197.out 3))
                  go_loopg [8] kj21 (fun kq v8 w' => ∃ (x8_4 : Int) (x197000_4 : ByteArray) (x197001_4 : ByteArray) (x197002_4 : ByteArray), v8 = .int .i64 x8_4 ∧ Aside0 (graftwoodref03_Split.l1 kq x8_4 (rdOf ByteArray.empty t198 0) (rdOf ByteArray.empty t198 1) (rdOf ByteArray.empty t198 2) t210 = some (r1, r2, r3, r4, r5)) ∧ Aside0 (kq ≤ kj21) ∧ Aside0 (Kd.R Kd.string 9 w' w.heap.size (fun _ => True) (.slice Ao63 t210.length co63) t210) ∧ Aside0 (w'.heap[gb196]? = some (.cells #[.string x197000_4, .string x197001_4, .string x197002_4, (.slice none 0 0)] 64 (0, 0))) ∧ Aside0 (w'.heap[gb197]? = some (.cells #[.string (rdOf ByteArray.empty t198 0), .string (rdOf ByteArray.empty t198 1), .string (rdOf ByteArray.empty t198 2), (.slice Ao63 t210.length co63)] 64 (0, 0))) ∧ Aside0 (Below w.heap.size w w'))
                  case atStart => exact ⟨(0), ((⟨#[]⟩ : ByteArray)), ((⟨#[]⟩ : ByteArray)), ((⟨#[]⟩ : ByteArray)), (by first | rfl | (simp; done) | (simp [*]; done)), H', ⟨Nat.le_refl _⟩, ⟨by (with_reducible repeat (first | apply Kd.R_alloc | apply Kd.R_drewN | apply Kd.R_drew)); exact Kd.R_mono (Kd.R_far (p := ⟨gb197, 3, none⟩) (Kd.R_types HO212.out BK197.out (by decide)) (fun _ hk => hk.2) (.slice Ao63 t210.length co63)) (fun _ hk => trivial)⟩, ⟨by (with_reducible repeat (first | refine blk_drewN ?_ _ | refine blk_drew ?_ | refine blk_alloc ?_ _)); refine blk_far ?_ NB196_197.out _; (with_reducible repeat (first | refine blk_drewN ?_ _ | refine blk_drew ?_ | refine blk_alloc ?_ _)); exact BK196.out⟩, ⟨by (with_reducible repeat (first | refine blk_drewN ?_ _ | refine blk_drew ?_ | refine blk_alloc ?_ _)); refine blk_put (cs := #[.string (rdOf ByteArray.empty t198 0), .string (rdOf ByteArray.empty t198 1), .string (rdOf ByteArray.empty t198 2), .slice none 0 0]) ?_ 3 _ rfl; (with_reducible repeat (first | refine blk_drewN ?_ _ | refine blk_drew ?_ | refine blk_alloc ?_ _)); exact BK197.out⟩, ⟨by repeat (first | (with_reducible first | exact HB.out | apply below_alloc | apply pw_below_drewN | apply below_drew1 | refine below_set ?_ GE196.out | refine below_set ?_ GE197.out) | exact HB.out)⟩⟩
                  case round =>
                   clear H'
                   try clear c1
                   try clear p1
                   try clear q1
                   try clear hx1
                   try clear c2
                   try clear p2
                   try clear q2
                   try clear hx2
                   try clear qi2
                   try clear c3
                   try clear c4
                   try clear c5
                   try clear c6
                   try clear p6
                   try clear c7
                   try clear c7b0
                   try clear c7b1
                   try clear c8
                   try clear c8b0
                   try clear c8b1
                   try clear p9
                   try clear q9
                   try clear hx9
                   try clear qi9
                   try clear c10
                   try clear c11
                   try clear c14
                   try clear c14b0
                   try clear c15
                   try clear c15b0
                   try clear c16
                   try clear c16b0
                   try clear p17
                   try clear q17
                   try clear hx17
                   try clear c18
                   try clear c18b0
                   try clear c18b1
                   try clear c19
                   try clear c19b0
                   try clear c19b1
                   try clear c20
                   try clear c20b0
                   try clear c20b1
                   try clear p20
                   try clear q20
                   try clear hx20
                   try clear qi20
                   try clear c24
                   try clear c24b0
                   try clear c24b1
                   try clear c25
                   try clear c25b0
                   try clear c25b1
                   try clear c27
                   try clear c28
                   try clear c28b0
                   try clear c28b1
                   try clear c30
                   try clear c31
                   try clear c31b0
                   try clear c31b1
                   try clear c34
                   try clear c36
                   try clear c37
                   try clear c38
                   try clear c41
                   try clear c41b0
                   try clear c41b1
                   try clear c42
                   try clear c42b0
                   try clear c42b1
                   try clear c43
                   try clear c43b0
                   try clear c43b1
                   try clear c44
                   try clear c44b0
                   try clear c44b1
                   try clear c50
                   try clear c54
                   try clear c54b0
                   try clear c54b1
                   try clear c55
                   try clear c55b0
                   try clear c55b1
                   try clear c64
                   try clear p64
                   try clear hcz12_0
                   try clear hcz12_1
                   try clear hcz12_2
                   try clear hcz12_3
                   try clear hcz13_0
                   try clear hcz13_1
                   try clear hcz13_2
                   try clear hcz13_3
                   try clear hcz39_0
                   try clear hcz39_1
                   try clear hcz39_2
                   try clear hcz39_3
                   try clear hcz40_0
                   try clear hcz40_1
                   try clear hcz40_2
                   try clear hcz40_3
                   try clear hcz51_0
                   try clear hcz51_1
                   try clear hcz51_2
                   try clear hcz51_3
                   try clear hcz52_0
                   try clear hcz52_1
                   try clear hcz52_2
                   try clear hcz52_3
                   try clear hcz65_0
                   try clear hcz65_1
                   try clear hcz65_2
                   try clear hcz65_3
                   try clear hcz6_0
                   try clear hcz6_1
                   try clear hcz6_2
                   try clear hcz6_3
                   try clear hfz12_0
                   try clear hfz12_1
                   try clear hfz12_2
                   try clear hfz12_3
                   try clear hfz13_0
                   try clear hfz13_1
                   try clear hfz13_2
                   try clear hfz13_3
                   try clear hfz39_0
                   try clear hfz39_1
                   try clear hfz39_2
                   try clear hfz39_3
                   try clear hfz40_0
                   try clear hfz40_1
                   try clear hfz40_2
                   try clear hfz40_3
                   try clear hfz51_0
                   try clear hfz51_1
                   try clear hfz51_2
                   try clear hfz51_3
                   try clear hfz52_0
                   try clear hfz52_1
                   try clear hfz52_2
                   try clear hfz52_3
                   try clear hfz65_0
                   try clear hfz65_1
                   try clear hfz65_2
                   try clear hfz65_3
                   try clear hfz6_0
                   try clear hfz6_1
                   try clear hfz6_2
                   try clear hfz6_3
                   try clear hx201_0
                   try clear hx203_0
                   try clear hx205_0
                   try clear hx207_0
                   try clear hx208_0
                   try clear hx209_0
                   try clear p1
                   try clear p17
                   try clear p2
                   try clear p20
                   try clear p201
                   try clear p203
                   try clear p205
                   try clear p207
                   try clear p208
                   try clear p209
                   try clear p6
                   try clear p9
                   try clear q1
                   try clear q17
                   try clear q2
                   try clear q20
                   try clear q201
                   try clear q203
                   try clear q205
                   try clear q207
                   try clear q208
                   try clear q209
                   try clear q9
                   obtain ⟨x8_4, x197000_4, x197001_4, x197002_4, rfl, HA, HK4, HO_198003, BK196, BK197, HB⟩ := hrel
                   cases gk with
                   | zero => exact absurd HA.out (by simp [graftwoodref03_Split.l1])
                   | succ k4 =>
                    have H := HA.out
                    clear HA
                    simp only [graftwoodref03_Split.l1] at H
                    by_cases c66 : x8_4 < (t210.length : Int)
                    ·rw [if_pos c66] at H
                     have c66b0 : decide (x8_4 < (t210.length : Int)) = true := decide_eq_true c66
                     clear c66
                     by_cases c67 : 0 ≤ x8_4
                     ·rw [if_pos c67] at H
                      have c67b0 : decide (0 ≤ x8_4) = true := decide_eq_true c67
                      clear c67
                      replace H := Option.bind_eq_some_iff.mp H
                      obtain ⟨t214, A680, H⟩ := H
                      replace H : (if t214 = true then (graftwoodref03_Split.l1 k4 (wrap64 (x8_4 + 1)) (rdOf ByteArray.empty t198 0) (rdOf ByteArray.empty t198 1) (rdOf ByteArray.empty t198 2) t210) else (some ((⟨#[]⟩ : ByteArray), (⟨#[]⟩ : ByteArray), (⟨#[]⟩ : ByteArray), ([] : List ByteArray), false))) = some (r1, r2, r3, r4, r5) := H
                      have A68 := Aside0.mk A680
                      clear A680
                      by_cases c69 : t214 = true
                      ·subst c69
                       have H1 : (graftwoodref03_Split.l1 k4 (wrap64 (x8_4 + 1)) (rdOf ByteArray.empty t198 0) (rdOf ByteArray.empty t198 1) (rdOf ByteArray.empty t198 2) t210) = some (r1, r2, r3, r4, r5) := by rw [if_pos rfl] at H; exact H
                       clear H
                       have H := H1
                       clear H1
                       have H' := Aside0.mk H
                       clear H
                       have hnb70 := NB197_196.out
                       have hnc70 := NB196_197.out
                       have hcz71_0 : wr.cell? ⟨gb197, 0, none⟩ = some (.string (rdOf ByteArray.empty t198 0)) := (blk_cell BK197.out 0).trans rfl
                       have hcz71_1 : wr.cell? ⟨gb197, 1, none⟩ = some (.string (rdOf ByteArray.empty t198 1)) := (blk_cell BK197.out 1).trans rfl
                       have hcz71_2 : wr.cell? ⟨gb197, 2, none⟩ = some (.string (rdOf ByteArray.empty t198 2)) := (blk_cell BK197.out 2).trans rfl
                       have hcz71_3 : wr.cell? ⟨gb197, 3, none⟩ = some (.slice Ao63 t210.length co63) := (blk_cell BK197.out 3).trans rfl
                       have hfz71_0 := blk_frozen BK197.out 0
                       have hfz71_1 := blk_frozen BK197.out 1
                       have hfz71_2 := blk_frozen BK197.out 2
                       have hfz71_3 := blk_frozen BK197.out 3
                       have p213 : 0 ≤ (x8_4 : Int) := of_decide_eq_true (by first | (with_reducible assumption) | assumption)
                       have q213 : x8_4 < (t210.length : Int) := of_decide_eq_true (by first | (with_reducible assumption) | assumption)
                       obtain ⟨ad213, e213, hx213_0⟩ := Kd.at_string (Kd.R_reads' HO_198003.out).2.2 x8_4 p213 q213
                       cases e213
                       replace p213 := eq_true p213
                       replace q213 := eq_true q213
                       go_wp2_with (first | ((with_reducible refine gate_callee (f := 42) rfl ?_); refine goesL_ (some 97) rfl rfl Tryd.func42 (by kernel_rfl) rfl #[.string (rdOf ByteArray.empty t210 x8_4)] rfl (by (try simp only [List.map_toArray, List.map_cons, List.map_nil]); first | done | rfl | (simp only [List.length_drop, List.length_take]; rfl)) ?_; (with_reducible refine (graftwoodref03_Word.calls k4 (rdOf ByteArray.empty t210 x8_4) true _ A68.out).mono ?_); rintro e w' ⟨rfl, ⟨nd, rfl⟩⟩; refine ⟨_, rfl, ?_⟩))
                       go_roundg k4
                       case measure => have := HJ1.out; have := HK2.out; have := HJ21.out; have := HK4.out; omega
                       case rel => exact ⟨(wrap64 (x8_4 + 1)), (x197000_4), (x197001_4), (x197002_4), (by first | rfl | (simp; done) | (simp [*]; done)), H', ⟨by have := HJ1.out; have := HK2.out; have := HJ21.out; have := HK4.out; omega⟩, ⟨by (with_reducible repeat (first | apply Kd.R_alloc | apply Kd.R_drewN | apply Kd.R_drew)); exact HO_198003.out⟩, ⟨by (with_reducible repeat (first | refine blk_drewN ?_ _ | refine blk_drew ?_ | refine blk_alloc ?_ _)); exact BK196.out⟩, ⟨by (with_reducible repeat (first | refine blk_drewN ?_ _ | refine blk_drew ?_ | refine blk_alloc ?_ _)); exact BK197.out⟩, ⟨by repeat (first | (with_reducible first | exact HB.out | apply below_alloc | apply pw_below_drewN | apply below_drew1 | refine below_set ?_ GE196.out | refine below_set ?_ GE197.out) | exact HB.out)⟩⟩
                      ·replace c69 := Bool.eq_false_iff.mpr c69
                       subst c69
                       have H1 : (some ((⟨#[]⟩ : ByteArray), (⟨#[]⟩ : ByteArray), (⟨#[]⟩ : ByteArray), ([] : List ByteArray), false)) = some (r1, r2, r3, r4, r5) := by rw [if_neg (show ¬ (false = true) by decide)] at H; exact H
                       clear H
                       have H := H1
                       clear H1
                       simp only [Option.some.injEq, Prod.mk.injEq] at H
                       obtain ⟨rfl, rfl, rfl, rfl, rfl⟩ := H
                       have hnb72 := NB197_196.out
                       have hnc72 := NB196_197.out
                       have hcz73_0 : wr.cell? ⟨gb197, 0, none⟩ = some (.string (rdOf ByteArray.empty t198 0)) := (blk_cell BK197.out 0).trans rfl
                       have hcz73_1 : wr.cell? ⟨gb197, 1, none⟩ = some (.string (rdOf ByteArray.empty t198 1)) := (blk_cell BK197.out 1).trans rfl
                       have hcz73_2 : wr.cell? ⟨gb197, 2, none⟩ = some (.string (rdOf ByteArray.empty t198 2)) := (blk_cell BK197.out 2).trans rfl
                       have hcz73_3 : wr.cell? ⟨gb197, 3, none⟩ = some (.slice Ao63 t210.length co63) := (blk_cell BK197.out 3).trans rfl
                       have hfz73_0 := blk_frozen BK197.out 0
                       have hfz73_1 := blk_frozen BK197.out 1
                       have hfz73_2 := blk_frozen BK197.out 2
                       have hfz73_3 := blk_frozen BK197.out 3
                       have p213 : 0 ≤ (x8_4 : Int) := of_decide_eq_true (by first | (with_reducible assumption) | assumption)
                       have q213 : x8_4 < (t210.length : Int) := of_decide_eq_true (by first | (with_reducible assumption) | assumption)
                       obtain ⟨ad213, e213, hx213_0⟩ := Kd.at_string (Kd.R_reads' HO_198003.out).2.2 x8_4 p213 q213
                       cases e213
                       replace p213 := eq_true p213
                       replace q213 := eq_true q213
                       go_wp2_with (first | ((with_reducible refine gate_callee (f := 42) rfl ?_); refine goesL_ (some 97) rfl rfl Tryd.func42 (by kernel_rfl) rfl #[.string (rdOf ByteArray.empty t210 x8_4)] rfl (by (try simp only [List.map_toArray, List.map_cons, List.map_nil]); first | done | rfl | (simp only [List.length_drop, List.length_take]; rfl)) ?_; (with_reducible refine (graftwoodref03_Word.calls k4 (rdOf ByteArray.empty t210 x8_4) false _ A68.out).mono ?_); rintro e w' ⟨rfl, ⟨nd, rfl⟩⟩; refine ⟨_, rfl, ?_⟩; (try (rw [drewN_self wr]; generalize hq_ : World.drewN wr _ = wr; have n0_ : Aside0 (Kd.R Kd.string 9 wr w.heap.size (fun _ => True) (.slice (some ad213) t210.length co63) t210) := ⟨by rw [← hq_]; exact (by (with_reducible repeat (first | apply Kd.R_alloc | apply Kd.R_drewN | apply Kd.R_drew)); exact HO_198003.out)⟩; have n1_ : Aside0 (wr.heap[gb196]? = some (.cells #[.string x197000_4, .string x197001_4, .string x197002_4, .slice none 0 0] 64 (0, 0))) := ⟨by rw [← hq_]; exact (by (with_reducible repeat (first | refine blk_drewN ?_ _ | refine blk_drew ?_ | refine blk_alloc ?_ _)); exact BK196.out)⟩; have n2_ : Aside0 (wr.heap[gb197]? = some (.cells #[.string (rdOf ByteArray.empty t198 0), .string (rdOf ByteArray.empty t198 1), .string (rdOf ByteArray.empty t198 2), .slice (some ad213) t210.length co63] 64 (0, 0))) := ⟨by rw [← hq_]; exact (by (with_reducible repeat (first | refine blk_drewN ?_ _ | refine blk_drew ?_ | refine blk_alloc ?_ _)); exact BK197.out)⟩; have n3_ : Aside0 (Below w.heap.size w wr) := ⟨by rw [← hq_]; exact (by repeat (first | (with_reducible first | exact HB.out | apply below_alloc | apply pw_below_drewN | apply below_drew1 | refine below_set ?_ GE196.out | refine below_set ?_ GE197.out) | exact HB.out))⟩; clear HO_198003 BK196 BK197 HB hq_; have HO_198003 := n0_; have BK196 := n1_; have BK197 := n2_; have HB := n3_; clear n0_ n1_ n2_ n3_)); have hcz74_0 : wr.cell? ⟨gb196, 0, none⟩ = some (.string x197000_4) := (blk_cell BK196.out 0).trans rfl; have hcz74_1 : wr.cell? ⟨gb196, 1, none⟩ = some (.string x197001_4) := (blk_cell BK196.out 1).trans rfl; have hcz74_2 : wr.cell? ⟨gb196, 2, none⟩ = some (.string x197002_4) := (blk_cell BK196.out 2).trans rfl; have hcz74_3 : wr.cell? ⟨gb196, 3, none⟩ = some (.slice none 0 0) := (blk_cell BK196.out 3).trans rfl; have hfz74_0 := blk_frozen BK196.out 0; have hfz74_1 := blk_frozen BK196.out 1; have hfz74_2 := blk_frozen BK196.out 2; have hfz74_3 := blk_frozen BK196.out 3))
                       refine bodyPost_ret (results_ct rfl _ _ gb196 64 #[.string (⟨#[]⟩ : ByteArray), .string (⟨#[]⟩ : ByteArray), .string (⟨#[]⟩ : ByteArray), .slice none 0 0] (0, 0) _ rfl (by (with_reducible repeat (first | refine blk_drewN ?_ _ | refine blk_drew ?_ | refine blk_alloc ?_ _)); refine blk_put (cs := #[.string (⟨#[]⟩ : ByteArray), .string (⟨#[]⟩ : ByteArray), .string (⟨#[]⟩ : ByteArray), .slice none 0 0]) ?_ 3 _ rfl; (with_reducible repeat (first | refine blk_drewN ?_ _ | refine blk_drew ?_ | refine blk_alloc ?_ _)); refine blk_put (cs := #[.string (⟨#[]⟩ : ByteArray), .string (⟨#[]⟩ : ByteArray), .string x197002_4, .slice none 0 0]) ?_ 2 _ rfl; (with_reducible repeat (first | refine blk_drewN ?_ _ | refine blk_drew ?_ | refine blk_alloc ?_ _)); refine blk_put (cs := #[.string (⟨#[]⟩ : ByteArray), .string x197001_4, .string x197002_4, .slice none 0 0]) ?_ 1 _ rfl; (with_reducible repeat (first | refine blk_drewN ?_ _ | refine blk_drew ?_ | refine blk_alloc ?_ _)); refine blk_put (cs := #[.string x197000_4, .string x197001_4, .string x197002_4, .slice none 0 0]) ?_ 0 _ rfl; (with_reducible repeat (first | refine blk_drewN ?_ _ | refine blk_drew ?_ | refine blk_alloc ?_ _)); exact BK196.out) Tryd.underlying64 rfl (by kernel_rfl)) rfl ?_
                       exact ⟨_, by first | rfl | (simp [errW_none, errW_some] <;> rfl) | (simp only [← hji53]; first | rfl | (simp [errW_none, errW_some] <;> rfl)) | (simp [*, errW_none, errW_some] <;> rfl), by first | exact Kd.R_nil _ _ _ _ _ | exact Kd.N_nil _ _ _ _ _ | exact Kd.V_nil _ _ _ _ _ | exact Kd.Q_nil _ _ _ _ _ | exact Kd.S_nil _ _ _ _ _, by repeat (first | (with_reducible first | exact HB.out | apply below_alloc | apply pw_below_drewN | apply below_drew1 | refine below_set ?_ GE196.out | refine below_set ?_ GE197.out) | exact HB.out)⟩
                     ·rw [if_neg c67] at H
                      exact absurd H (by simp)
                    ·rw [if_neg c66] at H
                     have c66b0 : decide (x8_4 < (t210.length : Int)) = false := decide_eq_false c66
                     clear c66
                     simp only [Option.some.injEq, Prod.mk.injEq] at H
                     obtain ⟨rfl, rfl, rfl, rfl, rfl⟩ := H
                     have hnb75 := NB197_196.out
                     have hnc75 := NB196_197.out
                     have hcz76_0 : wr.cell? ⟨gb197, 0, none⟩ = some (.string (rdOf ByteArray.empty t198 0)) := (blk_cell BK197.out 0).trans rfl
                     have hcz76_1 : wr.cell? ⟨gb197, 1, none⟩ = some (.string (rdOf ByteArray.empty t198 1)) := (blk_cell BK197.out 1).trans rfl
                     have hcz76_2 : wr.cell? ⟨gb197, 2, none⟩ = some (.string (rdOf ByteArray.empty t198 2)) := (blk_cell BK197.out 2).trans rfl
                     have hcz76_3 : wr.cell? ⟨gb197, 3, none⟩ = some (.slice Ao63 t210.length co63) := (blk_cell BK197.out 3).trans rfl
                     have hfz76_0 := blk_frozen BK197.out 0
                     have hfz76_1 := blk_frozen BK197.out 1
                     have hfz76_2 := blk_frozen BK197.out 2
                     have hfz76_3 := blk_frozen BK197.out 3
                     have hcz77_0 : wr.cell? ⟨gb196, 0, none⟩ = some (.string x197000_4) := (blk_cell BK196.out 0).trans rfl
                     have hcz77_1 : wr.cell? ⟨gb196, 1, none⟩ = some (.string x197001_4) := (blk_cell BK196.out 1).trans rfl
                     have hcz77_2 : wr.cell? ⟨gb196, 2, none⟩ = some (.string x197002_4) := (blk_cell BK196.out 2).trans rfl
                     have hcz77_3 : wr.cell? ⟨gb196, 3, none⟩ = some (.slice none 0 0) := (blk_cell BK196.out 3).trans rfl
                     have hfz77_0 := blk_frozen BK196.out 0
                     have hfz77_1 := blk_frozen BK196.out 1
                     have hfz77_2 := blk_frozen BK196.out 2
                     have hfz77_3 := blk_frozen BK196.out 3
                     go_wp2
                     refine bodyPost_ret (results_ct rfl _ _ gb196 64 #[.string (rdOf ByteArray.empty t198 0), .string (rdOf ByteArray.empty t198 1), .string (rdOf ByteArray.empty t198 2), .slice Ao63 t210.length co63] (0, 0) _ rfl (by (with_reducible repeat (first | refine blk_drewN ?_ _ | refine blk_drew ?_ | refine blk_alloc ?_ _)); refine blk_put (cs := #[.string (rdOf ByteArray.empty t198 0), .string (rdOf ByteArray.empty t198 1), .string (rdOf ByteArray.empty t198 2), .slice none 0 0]) ?_ 3 _ rfl; (with_reducible repeat (first | refine blk_drewN ?_ _ | refine blk_drew ?_ | refine blk_alloc ?_ _)); refine blk_put (cs := #[.string (rdOf ByteArray.empty t198 0), .string (rdOf ByteArray.empty t198 1), .string x197002_4, .slice none 0 0]) ?_ 2 _ rfl; (with_reducible repeat (first | refine blk_drewN ?_ _ | refine blk_drew ?_ | refine blk_alloc ?_ _)); refine blk_put (cs := #[.string (rdOf ByteArray.empty t198 0), .string x197001_4, .string x197002_4, .slice none 0 0]) ?_ 1 _ rfl; (with_reducible repeat (first | refine blk_drewN ?_ _ | refine blk_drew ?_ | refine blk_alloc ?_ _)); refine blk_put (cs := #[.string x197000_4, .string x197001_4, .string x197002_4, .slice none 0 0]) ?_ 0 _ rfl; (with_reducible repeat (first | refine blk_drewN ?_ _ | refine blk_drew ?_ | refine blk_alloc ?_ _)); exact BK196.out) Tryd.underlying64 rfl (by kernel_rfl)) rfl ?_
                     exact ⟨_, by first | rfl | (simp [errW_none, errW_some] <;> rfl) | (simp only [← hji53]; first | rfl | (simp [errW_none, errW_some] <;> rfl)) | (simp [*, errW_none, errW_some] <;> rfl), by (with_reducible repeat (first | apply Kd.R_alloc | apply Kd.R_drewN | apply Kd.R_drew)); exact Kd.R_mono (Kd.R_far (p := ⟨gb196, 3, none⟩) (Kd.R_far (p := ⟨gb196, 2, none⟩) (Kd.R_far (p := ⟨gb196, 1, none⟩) (Kd.R_far (p := ⟨gb196, 0, none⟩) (Kd.R_types HO_198003.out BK196.out (by decide)) (fun _ hk => hk.2) (.string (rdOf ByteArray.empty t198 0))) (fun _ hk => hk.2) (.string (rdOf ByteArray.empty t198 1))) (fun _ hk => hk.2) (.string (rdOf ByteArray.empty t198 2))) (fun _ hk => hk.2) (.slice Ao63 t210.length co63)) (fun _ hk => trivial), by repeat (first | (with_reducible first | exact HB.out | apply below_alloc | apply pw_below_drewN | apply below_drew1 | refine below_set ?_ GE196.out | refine below_set ?_ GE197.out) | exact HB.out)⟩
                 ·rw [if_neg c55] at H
                  exact absurd H (by simp)
                ·rw [if_neg c54] at H
                 exact absurd H (by simp)
              ·rw [if_neg c43] at H
               exact absurd H (by simp)
             ·rw [if_neg c42] at H
              exact absurd H (by simp)
            ·rw [if_neg c41] at H
             exact absurd H (by simp)
        ·rw [if_neg c20] at H
         exact absurd H (by simp)
       ·rw [if_neg c19] at H
        exact absurd H (by simp)

/-! ### graftwoodref03_May: function 29 -/
def graftwoodref03_May.f (k : Nat) (a0 : ByteArray) : Option (Bool) := (graftwoodref03_Split.f k a0).bind fun bt215 => (some bt215.2.2.2.2)
theorem graftwoodref03_May.mono : ∀ a0 k, LeO (graftwoodref03_May.f k a0) (graftwoodref03_May.f (k + 1) a0) := by
 intro a0 k
 unfold graftwoodref03_May.f
 repeat' first
   | (with_reducible exact graftwoodref03_Split.mono _ _)
   | (with_reducible exact LeO.refl _)
   | (with_reducible exact LeO.none _)
   | (with_reducible refine LeO.ite ?_ ?_)
   | (with_reducible refine LeO.bind ?_ (fun _ => ?_))
   | exact graftwoodref03_Split.mono _ _
   | exact LeO.none _
   | refine LeO.ite ?_ ?_
   | refine LeO.bind ?_ (fun _ => ?_)
set_option maxHeartbeats 8000000 in
set_option maxRecDepth 100000 in
theorem graftwoodref03_May.calls (k : Nat) (a0 : ByteArray) (r : Bool) (w : World) (h : graftwoodref03_May.f k a0 = some r) :
  Calls Tryd.prog 29 #[.string a0] w fun e w' => e = .returned (.bool r) ∧ Below w.heap.size w w' := by
 have hu64 := Tryd.underlying64
 have HB := Aside0.mk (Below.refl w.heap.size w)
 have H : ((graftwoodref03_Split.f k a0).bind fun bt215 => (some bt215.2.2.2.2)) = some r := h
 clear h
 replace H := Option.bind_eq_some_iff.mp H
 obtain ⟨⟨t215, t216, t217, t218, t221⟩, A20, H⟩ := H
 replace H : (some t221) = some r := H
 have A2 := Aside0.mk A20
 clear A20
 obtain rfl := Option.some.inj H
 go_enter Tryd.func29, Tryd.ntmps29
 go_wp2_with (first | ((with_reducible refine gate_callee (f := 36) rfl ?_); refine goesL_ (some 7) rfl rfl Tryd.func36 (by kernel_rfl) rfl #[.string a0] rfl (by (try simp only [List.map_toArray, List.map_cons, List.map_nil]); first | done | rfl | (simp only [List.length_drop, List.length_take]; rfl)) ?_; (with_reducible refine (graftwoodref03_Split.calls k a0 t215 t216 t217 t218 t221 _ A2.out).mono ?_); rintro e w3 ⟨v219, rfl, ho0, hb⟩; refine ⟨_, rfl, ?_⟩; have n0_ := Aside0.mk (Kd.R_lower ho0 (below_size (by repeat (first | (with_reducible first | exact HB.out | apply below_alloc | apply pw_below_drewN | apply below_drew1) | exact HB.out)))); have n1_ := Aside0.mk (below_step (by repeat (first | (with_reducible first | exact HB.out | apply below_alloc | apply pw_below_drewN | apply below_drew1) | exact HB.out)) hb); clear HB; have HO220 := n0_; have HB := n1_; clear n0_ n1_; (try clear hb); (try clear hb2); (try clear hk); (try clear hi); (try clear ho0)) | ((with_reducible refine gate_dst (N := 3) rfl ?_); refine box_event ?hg (N := 3) ?hd (cs := #[.string (⟨#[]⟩ : ByteArray), .string (⟨#[]⟩ : ByteArray), .string (⟨#[]⟩ : ByteArray), .slice none 0 0]) (t := 64) ?hr ?_; (case hd => rfl); (case hg => rfl); (case hr => first | (go_simp; done) | (go_simp; rfl)); intro gb222 hg w4 hbox hb; have n0_ := Aside0.mk (Kd.R_below (by (with_reducible repeat (first | apply Kd.R_alloc | apply Kd.R_drewN | apply Kd.R_drew)); exact HO220.out) hb); have n1_ := Aside0.mk (below_step (by repeat (first | (with_reducible first | exact HB.out | apply below_alloc | apply pw_below_drewN | apply below_drew1) | exact HB.out)) hb); have n2_ := Aside0.mk (hbox); have n3_ := Aside0.mk ((by rw [hg]; exact (below_size (by repeat (first | (with_reducible first | exact HB.out | apply below_alloc | apply pw_below_drewN | apply below_drew1) | exact HB.out))) : w.heap.size ≤ gb222)); have n4_ := Aside0.mk ((by rw [hg]; exact (below_size (by repeat (first | (with_reducible first | exact HB.out | apply below_alloc | apply pw_below_drewN | apply below_drew1) | exact HB.out))) : w.heap.size ≤ gb222)); clear HO220; clear HB; have HO220 := n0_; have HB := n1_; have BK222 := n2_; have GW222 := n3_; have GE222 := n4_; clear n0_ n1_ n2_ n3_ n4_; clear hb hbox hg; have hcz5_0 : w4.cell? ⟨gb222, 0, none⟩ = some (.string (⟨#[]⟩ : ByteArray)) := (blk_cell BK222.out 0).trans rfl; have hcz5_1 : w4.cell? ⟨gb222, 1, none⟩ = some (.string (⟨#[]⟩ : ByteArray)) := (blk_cell BK222.out 1).trans rfl; have hcz5_2 : w4.cell? ⟨gb222, 2, none⟩ = some (.string (⟨#[]⟩ : ByteArray)) := (blk_cell BK222.out 2).trans rfl; have hcz5_3 : w4.cell? ⟨gb222, 3, none⟩ = some (.slice none 0 0) := (blk_cell BK222.out 3).trans rfl; have hfz5_0 := blk_frozen BK222.out 0; have hfz5_1 := blk_frozen BK222.out 1; have hfz5_2 := blk_frozen BK222.out 2; have hfz5_3 := blk_frozen BK222.out 3; obtain ⟨Ao6, co6, eo6⟩ := Kd.R_slice HO220.out; subst eo6))
 go_ret
 exact ⟨by first | rfl | (simp [errW_none, errW_some] <;> rfl) | (simp [*, errW_none, errW_some] <;> rfl), by repeat (first | (with_reducible first | exact HB.out | apply below_alloc | apply pw_below_drewN | apply below_drew1 | refine below_set ?_ GE222.out) | exact HB.out)⟩

/-! ### graftwoodref05_May: function 12 -/
def graftwoodref05_May.f (k : Nat) (a0_0 : ByteArray) (a0_1 : ByteArray) : Option (Bool) := (graftwoodref04_May.f k a0_0).bind fun t224 => (if t224 = true then ((graftwoodref03_May.f k a0_1).bind fun t225 => (some t225)) else (some false))
theorem graftwoodref05_May.mono : ∀ a0 a1 k, LeO (graftwoodref05_May.f k a0 a1) (graftwoodref05_May.f (k + 1) a0 a1) := by
 intro a0 a1 k
 unfold graftwoodref05_May.f
 repeat' first
   | (with_reducible exact graftwoodref03_May.mono _ _)
   | (with_reducible exact graftwoodref04_May.mono _ _)
   | (with_reducible exact LeO.refl _)
   | (with_reducible exact LeO.none _)
   | (with_reducible refine LeO.ite ?_ ?_)
   | (with_reducible refine LeO.bind ?_ (fun _ => ?_))
   | exact graftwoodref03_May.mono _ _
   | exact graftwoodref04_May.mono _ _
   | exact LeO.none _
   | refine LeO.ite ?_ ?_
   | refine LeO.bind ?_ (fun _ => ?_)
set_option maxHeartbeats 8000000 in
set_option maxRecDepth 100000 in
theorem graftwoodref05_May.calls (k : Nat) (a0_0 : ByteArray) (a0_1 : ByteArray) (r : Bool) (w : World) (h : graftwoodref05_May.f k a0_0 a0_1 = some r) :
  Calls Tryd.prog 12 #[.agg #[.string a0_0, .string a0_1]] w fun e w' => e = .returned (.bool r) ∧ Below w.heap.size w w' := by
 have hu34 := Tryd.underlying34
 have HB := Aside0.mk (Below.refl w.heap.size w)
 have H : ((graftwoodref04_May.f k a0_0).bind fun t224 => (if t224 = true then ((graftwoodref03_May.f k a0_1).bind fun t225 => (some t225)) else (some false))) = some r := h
 clear h
 replace H := Option.bind_eq_some_iff.mp H
 obtain ⟨t224, A20, H⟩ := H
 replace H : (if t224 = true then ((graftwoodref03_May.f k a0_1).bind fun t225 => (some t225)) else (some false)) = some r := H
 have A2 := Aside0.mk A20
 clear A20
 by_cases c3 : t224 = true
 ·subst c3
  have H1 : ((graftwoodref03_May.f k a0_1).bind fun t225 => (some t225)) = some r := by rw [if_pos rfl] at H; exact H
  clear H
  have H := H1
  clear H1
  replace H := Option.bind_eq_some_iff.mp H
  obtain ⟨t225, A40, H⟩ := H
  replace H : (some t225) = some r := H
  have A4 := Aside0.mk A40
  clear A40
  obtain rfl := Option.some.inj H
  go_enter Tryd.func12, Tryd.ntmps12
  go_wp2_with (first | ((with_reducible refine gate_dst (N := 1) rfl ?_); refine box_event ?hg (N := 1) ?hd (cs := #[.string a0_0, .string a0_1]) (t := 34) ?hr ?_; (case hd => rfl); (case hg => rfl); (case hr => first | (go_simp; done) | (go_simp; rfl)); intro gb223 hg w5 hbox hb; have n0_ := Aside0.mk (below_step (by repeat (first | (with_reducible first | exact HB.out | apply below_alloc | apply pw_below_drewN | apply below_drew1) | exact HB.out)) hb); have n1_ := Aside0.mk (hbox); have n2_ := Aside0.mk ((by rw [hg]; exact (below_size (by repeat (first | (with_reducible first | exact HB.out | apply below_alloc | apply pw_below_drewN | apply below_drew1) | exact HB.out))) : w.heap.size ≤ gb223)); have n3_ := Aside0.mk ((by rw [hg]; exact (below_size (by repeat (first | (with_reducible first | exact HB.out | apply below_alloc | apply pw_below_drewN | apply below_drew1) | exact HB.out))) : w.heap.size ≤ gb223)); clear HB; have HB := n0_; have BK223 := n1_; have GW223 := n2_; have GE223 := n3_; clear n0_ n1_ n2_ n3_; clear hb hbox hg; have hcz6_0 : w5.cell? ⟨gb223, 0, none⟩ = some (.string a0_0) := (blk_cell BK223.out 0).trans rfl; have hcz6_1 : w5.cell? ⟨gb223, 1, none⟩ = some (.string a0_1) := (blk_cell BK223.out 1).trans rfl; have hfz6_0 := blk_frozen BK223.out 0; have hfz6_1 := blk_frozen BK223.out 1) | ((with_reducible refine gate_callee (f := 28) rfl ?_); refine goesL_ (some 5) rfl rfl Tryd.func28 (by kernel_rfl) rfl #[.string a0_0] rfl (by (try simp only [List.map_toArray, List.map_cons, List.map_nil]); first | done | rfl | (simp only [List.length_drop, List.length_take]; rfl)) ?_; (with_reducible refine (graftwoodref04_May.calls k a0_0 true _ A2.out).mono ?_); rintro e w7 ⟨rfl, hb⟩; refine ⟨_, rfl, ?_⟩; have n0_ := Aside0.mk (blk_below (g := gb223) (o := .cells #[.string a0_0, .string a0_1] 34 (0, 0)) (by (with_reducible repeat (first | refine blk_drewN ?_ _ | refine blk_drew ?_ | refine blk_alloc ?_ _)); exact BK223.out) hb); have n1_ := Aside0.mk (below_step (by repeat (first | (with_reducible first | exact HB.out | apply below_alloc | apply pw_below_drewN | apply below_drew1 | refine below_set ?_ GE223.out) | exact HB.out)) hb); clear BK223; clear HB; have BK223 := n0_; have HB := n1_; clear n0_ n1_; (try clear hb); (try clear hb2); (try clear hk); (try clear hi); have hcz8_0 : w7.cell? ⟨gb223, 0, none⟩ = some (.string a0_0) := (blk_cell BK223.out 0).trans rfl; have hcz8_1 : w7.cell? ⟨gb223, 1, none⟩ = some (.string a0_1) := (blk_cell BK223.out 1).trans rfl; have hfz8_0 := blk_frozen BK223.out 0; have hfz8_1 := blk_frozen BK223.out 1) | (go_at_call 29; (with_reducible refine (graftwoodref03_May.calls k a0_1 t225 _ A4.out).mono ?_); rintro e w9 ⟨rfl, hb⟩; have n0_ := Aside0.mk (blk_below (g := gb223) (o := .cells #[.string a0_0, .string a0_1] 34 (0, 0)) (by (with_reducible repeat (first | refine blk_drewN ?_ _ | refine blk_drew ?_ | refine blk_alloc ?_ _)); exact BK223.out) hb); have n1_ := Aside0.mk (below_step (by repeat (first | (with_reducible first | exact HB.out | apply below_alloc | apply pw_below_drewN | apply below_drew1 | refine below_set ?_ GE223.out) | exact HB.out)) hb); clear BK223; clear HB; have BK223 := n0_; have HB := n1_; clear n0_ n1_; (try clear hb); (try clear hb2); (try clear hk); (try clear hi)))
  go_ret
  exact ⟨by first | rfl | (simp [errW_none, errW_some] <;> rfl) | (simp [*, errW_none, errW_some] <;> rfl), by repeat (first | (with_reducible first | exact HB.out | apply below_alloc | apply pw_below_drewN | apply below_drew1 | refine below_set ?_ GE223.out) | exact HB.out)⟩
 ·replace c3 := Bool.eq_false_iff.mpr c3
  subst c3
  have H1 : (some false) = some r := by rw [if_neg (show ¬ (false = true) by decide)] at H; exact H
  clear H
  have H := H1
  clear H1
  obtain rfl := Option.some.inj H
  go_enter Tryd.func12, Tryd.ntmps12
  go_wp2_with (first | ((with_reducible refine gate_dst (N := 1) rfl ?_); refine box_event ?hg (N := 1) ?hd (cs := #[.string a0_0, .string a0_1]) (t := 34) ?hr ?_; (case hd => rfl); (case hg => rfl); (case hr => first | (go_simp; done) | (go_simp; rfl)); intro gb223 hg w10 hbox hb; have n0_ := Aside0.mk (below_step (by repeat (first | (with_reducible first | exact HB.out | apply below_alloc | apply pw_below_drewN | apply below_drew1) | exact HB.out)) hb); have n1_ := Aside0.mk (hbox); have n2_ := Aside0.mk ((by rw [hg]; exact (below_size (by repeat (first | (with_reducible first | exact HB.out | apply below_alloc | apply pw_below_drewN | apply below_drew1) | exact HB.out))) : w.heap.size ≤ gb223)); have n3_ := Aside0.mk ((by rw [hg]; exact (below_size (by repeat (first | (with_reducible first | exact HB.out | apply below_alloc | apply pw_below_drewN | apply below_drew1) | exact HB.out))) : w.heap.size ≤ gb223)); clear HB; have HB := n0_; have BK223 := n1_; have GW223 := n2_; have GE223 := n3_; clear n0_ n1_ n2_ n3_; clear hb hbox hg; have hcz11_0 : w10.cell? ⟨gb223, 0, none⟩ = some (.string a0_0) := (blk_cell BK223.out 0).trans rfl; have hcz11_1 : w10.cell? ⟨gb223, 1, none⟩ = some (.string a0_1) := (blk_cell BK223.out 1).trans rfl; have hfz11_0 := blk_frozen BK223.out 0; have hfz11_1 := blk_frozen BK223.out 1) | ((with_reducible refine gate_callee (f := 28) rfl ?_); refine goesL_ (some 5) rfl rfl Tryd.func28 (by kernel_rfl) rfl #[.string a0_0] rfl (by (try simp only [List.map_toArray, List.map_cons, List.map_nil]); first | done | rfl | (simp only [List.length_drop, List.length_take]; rfl)) ?_; (with_reducible refine (graftwoodref04_May.calls k a0_0 false _ A2.out).mono ?_); rintro e w12 ⟨rfl, hb⟩; refine ⟨_, rfl, ?_⟩; have n0_ := Aside0.mk (blk_below (g := gb223) (o := .cells #[.string a0_0, .string a0_1] 34 (0, 0)) (by (with_reducible repeat (first | refine blk_drewN ?_ _ | refine blk_drew ?_ | refine blk_alloc ?_ _)); exact BK223.out) hb); have n1_ := Aside0.mk (below_step (by repeat (first | (with_reducible first | exact HB.out | apply below_alloc | apply pw_below_drewN | apply below_drew1 | refine below_set ?_ GE223.out) | exact HB.out)) hb); clear BK223; clear HB; have BK223 := n0_; have HB := n1_; clear n0_ n1_; (try clear hb); (try clear hb2); (try clear hk); (try clear hi)))
  go_ret
  exact ⟨by first | rfl | (simp [errW_none, errW_some] <;> rfl) | (simp [*, errW_none, errW_some] <;> rfl), by repeat (first | (with_reducible first | exact HB.out | apply below_alloc | apply pw_below_drewN | apply below_drew1 | refine below_set ?_ GE223.out) | exact HB.out)⟩

end Go.Proofs.YtjneghnknfhboaaDoor.P
