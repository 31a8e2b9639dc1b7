-- Written by this project's own program (wip/tools/hp.py), driving the kit's print; hand texts among it. Not trusted: Lean checks it.
-- half the indentation
import Derived.Test.YtjneghnknfhboaaDoorP0
import Derived.Test.YtjneghnknfhboaaDoorP2
import Derived.Test.YtjneghnknfhboaaDoorP17
import Derived.Test.YtjneghnknfhboaaDoorP25
import Derived.Test.YtjneghnknfhboaaDoorP31
namespace Go.Proofs.YtjneghnknfhboaaDoor.P
open Go.RowKit Go.Proofs.YtjneghnknfhboaaDoorW.PrintWords Go.Proofs.YtjneghnknfhboaaDoorW.PrintLast Go.Proofs.YtjneghnknfhboaaDoorW.PrintMore
attribute [local go_sem] max2_int min2_int max_two min_two max_three min_three max_four min_four   -- for this text's walks alone
set_option linter.unusedVariables false
set_option linter.unusedSimpArgs false

/-! ### graftwoodlaw10_InternDense: function 4 -/
mutual
def graftwoodlaw10_InternDense.l0 : Nat → List (S34) → List Int → Int → Int → List (S34) → Option (Bool)
 | 0, _, _, _, _, _ => none
 | k + 1, x0, x3, x6, x7, x372000 => if x7 < (x0.length : Int) then (if 0 ≤ x7 then (if x7 < (x3.length : Int) then (if (rd x3 x7) > x6 then (graftwoodlaw10_InternDense.j1 k x0 x3 x6 x7 true x372000) else (graftwoodlaw10_InternDense.j1 k x0 x3 x6 x7 (decide ((rd x3 x7) < 0)) x372000)) else (none)) else (none)) else (if x6 = (x372000.length : Int) then ((graftwoodref05_Set.f k x0).bind fun t373 => (if x6 = (t373.length : Int) then ((graftwoodlaw10_awake.f k).bind fun t376 => (some t376)) else (some false))) else (some false))
def graftwoodlaw10_InternDense.j1 : Nat → List (S34) → List Int → Int → Int → Bool → List (S34) → Option (Bool)
 | 0, _, _, _, _, _, _ => none
 | k + 1, x0, x3, x6, x7, x49, x372000 => if x49 = true then (some false) else (if 0 ≤ x7 then (if x7 < (x3.length : Int) then (if (rd x3 x7) = x6 then (graftwoodlaw10_InternDense.l0 k x0 x3 (wrap64 (x6 + 1)) (wrap64 (x7 + 1)) x372000) else (graftwoodlaw10_InternDense.l0 k x0 x3 x6 (wrap64 (x7 + 1)) x372000)) else (none)) else (none))
end
def graftwoodlaw10_InternDense.f (k : Nat) (l0 : List (S34)) : Option (Bool) := (graftwoodlaw05_Few.f k l0).bind fun t361 => ((intern_All.f k ([] : List (S34)) t361).bind fun bt364 => (if bt364.2.2 = 0 then (if (bt364.1.length : Int) = (t361.length : Int) then (graftwoodlaw10_InternDense.l0 k t361 bt364.1 0 0 bt364.2.1) else (some false)) else (if (bt364.2.1.length : Int) = 0 then ((graftwoodlaw10_awake.f k).bind fun t372 => (some t372)) else (some false))))
theorem graftwoodlaw10_InternDense.mono_l : ∀ k, (∀ y0 y1 y2 y3 y4, LeO (graftwoodlaw10_InternDense.l0 k y0 y1 y2 y3 y4) (graftwoodlaw10_InternDense.l0 (k + 1) y0 y1 y2 y3 y4)) ∧ (∀ y0 y1 y2 y3 y4 y5, LeO (graftwoodlaw10_InternDense.j1 k y0 y1 y2 y3 y4 y5) (graftwoodlaw10_InternDense.j1 (k + 1) y0 y1 y2 y3 y4 y5))
 | 0 => ⟨fun _ _ _ _ _ r h => by simp [graftwoodlaw10_InternDense.l0] at h, fun _ _ _ _ _ _ r h => by simp [graftwoodlaw10_InternDense.j1] at h⟩
 | k + 1 => by
  obtain ⟨ih0, ih1⟩ := graftwoodlaw10_InternDense.mono_l k
  refine ⟨?_, ?_⟩
  ·intro y0 y1 y2 y3 y4
   unfold graftwoodlaw10_InternDense.l0
   repeat' first
   | (with_reducible exact ih0 _ _ _ _ _)
   | (with_reducible exact ih1 _ _ _ _ _ _)
   | (with_reducible exact graftwoodlaw05_Few.mono _ _)
   | (with_reducible exact graftwoodlaw10_awake.mono _)
   | (with_reducible exact graftwoodref05_Set.mono _ _)
   | (with_reducible exact intern_All.mono _ _ _)
   | (with_reducible exact LeO.refl _)
   | (with_reducible exact LeO.none _)
   | (with_reducible refine LeO.ite ?_ ?_)
   | (with_reducible refine LeO.bind ?_ (fun _ => ?_))
   | exact ih0 _ _ _ _ _
   | exact ih1 _ _ _ _ _ _
   | exact graftwoodlaw05_Few.mono _ _
   | exact graftwoodlaw10_awake.mono _
   | exact graftwoodref05_Set.mono _ _
   | exact intern_All.mono _ _ _
   | exact LeO.none _
   | refine LeO.ite ?_ ?_
   | refine LeO.bind ?_ (fun _ => ?_)
  ·intro y0 y1 y2 y3 y4 y5
   unfold graftwoodlaw10_InternDense.j1
   repeat' first
   | (with_reducible exact ih0 _ _ _ _ _)
   | (with_reducible exact ih1 _ _ _ _ _ _)
   | (with_reducible exact graftwoodlaw05_Few.mono _ _)
   | (with_reducible exact graftwoodlaw10_awake.mono _)
   | (with_reducible exact graftwoodref05_Set.mono _ _)
   | (with_reducible exact intern_All.mono _ _ _)
   | (with_reducible exact LeO.refl _)
   | (with_reducible exact LeO.none _)
   | (with_reducible refine LeO.ite ?_ ?_)
   | (with_reducible refine LeO.bind ?_ (fun _ => ?_))
   | exact ih0 _ _ _ _ _
   | exact ih1 _ _ _ _ _ _
   | exact graftwoodlaw05_Few.mono _ _
   | exact graftwoodlaw10_awake.mono _
   | exact graftwoodref05_Set.mono _ _
   | exact intern_All.mono _ _ _
   | exact LeO.none _
   | refine LeO.ite ?_ ?_
   | refine LeO.bind ?_ (fun _ => ?_)
theorem graftwoodlaw10_InternDense.mono : ∀ a0 k, LeO (graftwoodlaw10_InternDense.f k a0) (graftwoodlaw10_InternDense.f (k + 1) a0) := by
 intro a0 k
 obtain ⟨ih0, ih1⟩ := graftwoodlaw10_InternDense.mono_l k
 unfold graftwoodlaw10_InternDense.f
 repeat' first
   | (with_reducible exact ih0 _ _ _ _ _)
   | (with_reducible exact ih1 _ _ _ _ _ _)
   | (with_reducible exact graftwoodlaw05_Few.mono _ _)
   | (with_reducible exact graftwoodlaw10_awake.mono _)
   | (with_reducible exact graftwoodref05_Set.mono _ _)
   | (with_reducible exact intern_All.mono _ _ _)
   | (with_reducible exact LeO.refl _)
   | (with_reducible exact LeO.none _)
   | (with_reducible refine LeO.ite ?_ ?_)
   | (with_reducible refine LeO.bind ?_ (fun _ => ?_))
   | exact ih0 _ _ _ _ _
   | exact ih1 _ _ _ _ _ _
   | exact graftwoodlaw05_Few.mono _ _
   | exact graftwoodlaw10_awake.mono _
   | exact graftwoodref05_Set.mono _ _
   | exact intern_All.mono _ _ _
   | exact LeO.none _
   | refine LeO.ite ?_ ?_
   | refine LeO.bind ?_ (fun _ => ?_)
set_option maxHeartbeats 8000000 in
set_option maxRecDepth 100000 in
theorem graftwoodlaw10_InternDense.calls (k : Nat) (A0 : Option Addr) (c0 : Nat) (l0 : List (S34)) (r : Bool) (w : World) (hr0 : Kd.C k34 w A0 l0.length l0) (hc0 : l0.length ≤ c0) (h : graftwoodlaw10_InternDense.f k l0 = some r) :
  Calls Tryd.prog 4 #[.slice A0 l0.length c0] w fun e w' => e = .returned (.bool r) ∧ Below w.heap.size w w' := by
 have hu24 := Tryd.underlying24
 have HR0 := Aside0.mk hr0
 have HC0 := Aside0.mk hc0
 clear hr0 hc0
 have HB := Aside0.mk (Below.refl w.heap.size w)
 have H : ((graftwoodlaw05_Few.f k l0).bind fun t361 => ((intern_All.f k ([] : List (S34)) t361).bind fun bt364 => (if bt364.2.2 = 0 then (if (bt364.1.length : Int) = (t361.length : Int) then (graftwoodlaw10_InternDense.l0 k t361 bt364.1 0 0 bt364.2.1) else (some false)) else (if (bt364.2.1.length : Int) = 0 then ((graftwoodlaw10_awake.f k).bind fun t372 => (some t372)) else (some false))))) = some r := h
 clear h
 replace H := Option.bind_eq_some_iff.mp H
 obtain ⟨t361, A20, H⟩ := H
 replace H : ((intern_All.f k ([] : List (S34)) t361).bind fun bt364 => (if bt364.2.2 = 0 then (if (bt364.1.length : Int) = (t361.length : Int) then (graftwoodlaw10_InternDense.l0 k t361 bt364.1 0 0 bt364.2.1) else (some false)) else (if (bt364.2.1.length : Int) = 0 then ((graftwoodlaw10_awake.f k).bind fun t372 => (some t372)) else (some false)))) = some r := H
 have A2 := Aside0.mk A20
 clear A20
 replace H := Option.bind_eq_some_iff.mp H
 obtain ⟨⟨t364, t367, t370⟩, A30, H⟩ := H
 replace H : (if t370 = 0 then (if (t364.length : Int) = (t361.length : Int) then (graftwoodlaw10_InternDense.l0 k t361 t364 0 0 t367) else (some false)) else (if (t367.length : Int) = 0 then ((graftwoodlaw10_awake.f k).bind fun t372 => (some t372)) else (some false))) = some r := H
 have A3 := Aside0.mk A30
 clear A30
 by_cases c4 : t370 = 0
 ·rw [if_pos c4] at H
  have c4b0 : (t370 == 0) = true := beq_iff_eq.mpr c4
  have c4b1 : (t370 != 0) = false := bne_eq_false_iff_eq.mpr c4
  clear c4
  by_cases c5 : (t364.length : Int) = (t361.length : Int)
  ·rw [if_pos c5] at H
   have c5b0 : ((t364.length : Int) == (t361.length : Int)) = true := beq_iff_eq.mpr c5
   have c5b1 : ((t364.length : Int) != (t361.length : Int)) = false := bne_eq_false_iff_eq.mpr c5
   have c5b2 : (t364.length == t361.length) = true := by first | simpa using c5 | (simp at c5 ⊢; omega)
   clear c5
   have H' := Aside0.mk H
   clear H
   go_enter Tryd.func4, Tryd.ntmps4
   go_wp2_with (first | ((with_reducible refine gate_callee (f := 9) rfl ?_); refine goesL_ (some 9) rfl rfl Tryd.func9 (by kernel_rfl) rfl #[.slice A0 l0.length c0] rfl (by (try simp only [List.map_toArray, List.map_cons, List.map_nil]); first | done | rfl | (simp only [List.length_drop, List.length_take]; rfl)) ?_; (with_reducible refine (graftwoodlaw05_Few.calls k _ _ l0 t361 _ ?side1 ?side2 A2.out).mono ?_); (case side1 => repeat (first | exact HR0.out | (with_reducible refine Kd.C_alloc ?_ _) | (with_reducible refine Kd.C_drewN ?_ _) | (with_reducible refine Kd.C_drew ?_))); (case side2 => exact HC0.out); rintro e w6 ⟨v362, rfl, ho0, hb⟩; refine ⟨_, rfl, ?_⟩; have n0_ := Aside0.mk (Kd.R_lower ho0 (below_size (by repeat (first | (with_reducible first | exact HB.out | apply below_alloc | apply pw_below_drewN | apply below_drew1) | exact HB.out)))); have n1_ := Aside0.mk (below_step (by repeat (first | (with_reducible first | exact HB.out | apply below_alloc | apply pw_below_drewN | apply below_drew1) | exact HB.out)) hb); clear HB; have HO363 := n0_; have HB := n1_; clear n0_ n1_; (try clear hb); (try clear hb2); (try clear hk); (try clear hi); (try clear ho0); obtain ⟨Ao7, co7, eo7⟩ := Kd.R_slice HO363.out; subst eo7) | ((with_reducible refine gate_callee (f := 10) rfl ?_); refine goesL_ (some 13) rfl rfl Tryd.func10 (by kernel_rfl) rfl #[.agg #[.slice none 0 0], .slice Ao7 t361.length co7] rfl (by (try simp only [List.map_toArray, List.map_cons, List.map_nil]); first | done | rfl | (simp only [List.length_drop, List.length_take]; rfl)) ?_; (refine (intern_All.calls k (fun k_ => False) _ _ ([] : List (S34)) _ _ t361 t364 t367 t370 _ ?side1 ?side2 ?side3 A3.out).mono ?_); (case side1 => exact Kd.V_nil _ _ _ _ _); (case side2 => repeat (first | exact (Kd.R_reads' HO363.out).2.2 | (with_reducible refine Kd.C_alloc ?_ _) | (with_reducible refine Kd.C_drewN ?_ _) | (with_reducible refine Kd.C_drew ?_))); (case side3 => exact (Kd.R_reads' HO363.out).2.1); rintro e w8 ⟨v365, v368, rfl, ho0, ho1, hb⟩; refine ⟨_, rfl, ?_⟩; have n0_ := Aside0.mk (Kd.R_below (by (with_reducible repeat (first | apply Kd.R_alloc | apply Kd.R_drewN | apply Kd.R_drew)); exact HO363.out) hb); have n1_ := Aside0.mk (Kd.R_lower (Kd.R_mono (ok' := fun k_ => True) ho0 (fun _ hk_ => trivial)) (below_size (by repeat (first | (with_reducible first | exact HB.out | apply below_alloc | apply pw_below_drewN | apply below_drew1) | exact HB.out)))); have n2_ := Aside0.mk (Kd.V_lower (Kd.V_mono (ok' := fun k_ => some k_ ≠ (v365 : Value).ownBlock ∧ some k_ ≠ (.slice Ao7 t361.length co7 : Value).ownBlock) ho1 (fun k_ hk_ => ⟨hk_.2, Or.elim hk_.1 (fun hs_ => (hs_).elim) (fun hn_ => (Kd.fresh' (Kd.R_lt (by (with_reducible repeat (first | apply Kd.R_alloc | apply Kd.R_drewN | apply Kd.R_drew)); exact HO363.out)) k_ hn_))⟩)) (below_size (by repeat (first | (with_reducible first | exact HB.out | apply below_alloc | apply pw_below_drewN | apply below_drew1) | exact HB.out)))); have n3_ := Aside0.mk (below_step (by repeat (first | (with_reducible first | exact HB.out | apply below_alloc | apply pw_below_drewN | apply below_drew1) | exact HB.out)) hb); clear HO363; clear HB; have HO363 := n0_; have HO366 := n1_; have HO369 := n2_; have HB := n3_; clear n0_ n1_ n2_ n3_; (try clear hb); (try clear hb2); (try clear hk); (try clear hi); (try clear ho0); (try clear ho1)) | ((with_reducible refine gate_dst (N := 4) rfl ?_); (try (refine gate_guard (by rfl) ?_; dsimp only)); refine box_event ?hg (N := 4) ?hd (cs := #[.slice none 0 0]) (t := 24) ?hr ?_; (case hd => rfl); (case hg => rfl); (case hr => first | (go_simp; done) | (go_simp; rfl)); intro gb371 hg w9 hbox hb; have n0_ := Aside0.mk (Kd.R_below (by (with_reducible repeat (first | apply Kd.R_alloc | apply Kd.R_drewN | apply Kd.R_drew)); exact HO363.out) hb); have n1_ := Aside0.mk (Kd.R_below (by (with_reducible repeat (first | apply Kd.R_alloc | apply Kd.R_drewN | apply Kd.R_drew)); exact HO366.out) hb); have n2_ := Aside0.mk (Kd.V_below (Kd.V_elderB (by (with_reducible repeat (first | apply Kd.V_alloc | apply Kd.V_drewN | apply Kd.V_drew)); exact HO369.out) gb371 (Nat.le_of_eq hg.symm)) hb); have n3_ := Aside0.mk (below_step (by repeat (first | (with_reducible first | exact HB.out | apply below_alloc | apply pw_below_drewN | apply below_drew1) | exact HB.out)) hb); have n4_ := Aside0.mk (hbox); have n5_ := Aside0.mk ((by rw [hg]; exact (below_size (by repeat (first | (with_reducible first | exact HB.out | apply below_alloc | apply pw_below_drewN | apply below_drew1) | exact HB.out))) : w.heap.size ≤ gb371)); have n6_ := Aside0.mk ((by rw [hg]; exact (below_size (by repeat (first | (with_reducible first | exact HB.out | apply below_alloc | apply pw_below_drewN | apply below_drew1) | exact HB.out))) : w.heap.size ≤ gb371)); clear HO363; clear HO366; clear HO369; clear HB; have HO363 := n0_; have HO366 := n1_; have HO369 := n2_; have HB := n3_; have BK371 := n4_; have GW371 := n5_; have GE371 := n6_; clear n0_ n1_ n2_ n3_ n4_ n5_ n6_; clear hb hbox hg; obtain ⟨Ao10, co10, eo10⟩ := Kd.V_slice HO369.out; subst eo10; have hcz11_0 : w9.cell? ⟨gb371, 0, none⟩ = some (.slice none 0 0) := (blk_cell BK371.out 0).trans rfl; have hfz11_0 := blk_frozen BK371.out 0; obtain ⟨Ao12, co12, eo12⟩ := Kd.R_slice HO366.out; subst eo12))
   go_loopg [6, 7] k (fun kq v6 v7 w' => ∃ (x6_1 : Int) (x7_1 : Int), v6 = .int .i64 x6_1 ∧ v7 = .int .i64 x7_1 ∧ Aside0 (graftwoodlaw10_InternDense.l0 kq t361 t364 x6_1 x7_1 t367 = some r) ∧ Aside0 (kq ≤ k) ∧ Aside0 (Kd.R k34 34 w' w.heap.size (fun _ => True) (.slice Ao7 t361.length co7) t361) ∧ Aside0 (Kd.R (Kd.int .i64) 3 w' w.heap.size (fun _ => True) (.slice Ao12 t364.length co12) t364) ∧ Aside0 (Kd.V k34 34 w' w.heap.size (fun k_ => some k_ ≠ ((.slice Ao7 t361.length co7) : Value).ownBlock ∧ some k_ ≠ ((.slice Ao12 t364.length co12) : Value).ownBlock ∧ k_ ≠ gb371) (.slice Ao10 t367.length co10) t367) ∧ Aside0 (w'.heap[gb371]? = some (.cells #[(.slice Ao10 t367.length co10)] 24 (0, 0))) ∧ Aside0 (Below w.heap.size w w'))
   case atStart => exact ⟨(0), (0), (by first | rfl | (simp; done) | (simp [*]; done)), (by first | rfl | (simp; done) | (simp [*]; done)), H', ⟨Nat.le_refl _⟩, ⟨by (with_reducible repeat (first | apply Kd.R_alloc | apply Kd.R_drewN | apply Kd.R_drew)); exact Kd.R_mono (Kd.R_far (p := ⟨gb371, 0, none⟩) (Kd.R_types HO363.out BK371.out (by decide)) (fun _ hk => hk.2) (.slice Ao10 t367.length co10)) (fun _ hk => trivial)⟩, ⟨by (with_reducible repeat (first | apply Kd.R_alloc | apply Kd.R_drewN | apply Kd.R_drew)); exact Kd.R_mono (Kd.R_far (p := ⟨gb371, 0, none⟩) (Kd.R_types HO366.out BK371.out (by decide)) (fun _ hk => hk.2) (.slice Ao10 t367.length co10)) (fun _ hk => trivial)⟩, ⟨by (with_reducible repeat (first | apply Kd.V_alloc | apply Kd.V_drewN | apply Kd.V_drew)); exact Kd.V_mono (Kd.V_far (p := ⟨gb371, 0, none⟩) (Kd.V_mono HO369.out (fun k_ hk => (⟨hk, hk.2⟩ : _ ∧ k_ ≠ gb371))) (fun _ hk => hk.2) (.slice Ao10 t367.length co10)) (fun _ hk => ⟨hk.1.1.2, ⟨hk.1.1.1, hk.1.2⟩⟩)⟩, ⟨by (with_reducible repeat (first | refine blk_drewN ?_ _ | refine blk_drew ?_ | refine blk_alloc ?_ _)); refine blk_put (cs := #[.slice none 0 0]) ?_ 0 _ rfl; (with_reducible repeat (first | refine blk_drewN ?_ _ | refine blk_drew ?_ | refine blk_alloc ?_ _)); exact BK371.out⟩, ⟨by repeat (first | (with_reducible first | exact HB.out | apply below_alloc | apply pw_below_drewN | apply below_drew1 | refine below_set ?_ GE371.out) | exact HB.out)⟩⟩
   case round =>
    clear H'
    try clear c1
    try clear p2
    try clear c4
    try clear c4b0
    try clear c4b1
    try clear c5
    try clear c5b0
    try clear c5b1
    try clear c5b2
    try clear c9
    try clear c10
    try clear hcz11_0
    try clear hfz11_0
    obtain ⟨x6_1, x7_1, rfl, rfl, HA, HK1, HO_0, HO_3, HO_372000, BK371, HB⟩ := hrel
    cases gk with
    | zero => exact absurd HA.out (by simp [graftwoodlaw10_InternDense.l0])
    | succ k1 =>
     have H := HA.out
     clear HA
     simp only [graftwoodlaw10_InternDense.l0] at H
     by_cases c13 : x7_1 < (t361.length : Int)
     ·rw [if_pos c13] at H
      have c13b0 : decide (x7_1 < (t361.length : Int)) = true := decide_eq_true c13
      clear c13
      have HC14 := Aside0.mk H
      clear H
      go_upto_region 11 with (fail)
      go_cut [49] (fun v49 wc => ∃ (kq : Nat) (x49_13 : Bool), v49 = .bool x49_13 ∧ Aside0 (graftwoodlaw10_InternDense.j1 kq t361 t364 x6_1 x7_1 x49_13 t367 = some r) ∧ Aside0 (kq ≤ k1) ∧ Aside0 (Kd.R k34 34 wc w.heap.size (fun _ => True) (.slice Ao7 t361.length co7) t361) ∧ Aside0 (Kd.R (Kd.int .i64) 3 wc w.heap.size (fun _ => True) (.slice Ao12 t364.length co12) t364) ∧ Aside0 (Kd.V k34 34 wc w.heap.size (fun k_ => some k_ ≠ ((.slice Ao7 t361.length co7) : Value).ownBlock ∧ some k_ ≠ ((.slice Ao12 t364.length co12) : Value).ownBlock ∧ k_ ≠ gb371) (.slice Ao10 t367.length co10) t367) ∧ Aside0 (wc.heap[gb371]? = some (.cells #[(.slice Ao10 t367.length co10)] 24 (0, 0))) ∧ Aside0 (Below w.heap.size w wc))
      case first =>
       have H := HC14.out
       clear HC14
       by_cases c15 : 0 ≤ x7_1
       ·rw [if_pos c15] at H
        have c15b0 : decide (0 ≤ x7_1) = true := decide_eq_true c15
        clear c15
        (first | rw [c15b0] | (simp only [i64_w, i32_w]; rw [c15b0]) | skip)
        by_cases c16 : x7_1 < (t364.length : Int)
        ·rw [if_pos c16] at H
         have c16b0 : decide (x7_1 < (t364.length : Int)) = true := decide_eq_true c16
         clear c16
         by_cases c17 : (rd t364 x7_1) > x6_1
         ·rw [if_pos c17] at H
          have c17b0 : decide (x6_1 < (rd t364 x7_1)) = true := decide_eq_true c17
          clear c17
          have H' := Aside0.mk H
          clear H
          have p377 : 0 ≤ (x7_1 : Int) := of_decide_eq_true (by first | (with_reducible assumption) | assumption)
          have q377 : x7_1 < (t364.length : Int) := of_decide_eq_true (by first | (with_reducible assumption) | assumption)
          obtain ⟨ad377, e377, hx377_0⟩ := Kd.at_int (Kd.R_reads' HO_3.out).2.2 x7_1 p377 q377
          cases e377
          replace p377 := eq_true p377
          replace q377 := eq_true q377
          go_wp2
          go_meet
          case rel => exact ⟨_, (true), (by first | rfl | (simp; done) | (simp [*]; done)), H', ⟨by have := HK1.out; first | omega | exact Nat.le_refl _⟩, ⟨by (with_reducible repeat (first | apply Kd.R_alloc | apply Kd.R_drewN | apply Kd.R_drew)); exact HO_0.out⟩, ⟨by (with_reducible repeat (first | apply Kd.R_alloc | apply Kd.R_drewN | apply Kd.R_drew)); exact HO_3.out⟩, ⟨by (with_reducible repeat (first | apply Kd.V_alloc | apply Kd.V_drewN | apply Kd.V_drew)); exact HO_372000.out⟩, ⟨by (with_reducible repeat (first | refine blk_drewN ?_ _ | refine blk_drew ?_ | refine blk_alloc ?_ _)); exact BK371.out⟩, ⟨by repeat (first | (with_reducible first | exact HB.out | apply below_alloc | apply pw_below_drewN | apply below_drew1 | refine below_set ?_ GE371.out) | exact HB.out)⟩⟩
         ·rw [if_neg c17] at H
          have c17b0 : decide (x6_1 < (rd t364 x7_1)) = false := decide_eq_false c17
          clear c17
          have H' := Aside0.mk H
          clear H
          have p377 : 0 ≤ (x7_1 : Int) := of_decide_eq_true (by first | (with_reducible assumption) | assumption)
          have q377 : x7_1 < (t364.length : Int) := of_decide_eq_true (by first | (with_reducible assumption) | assumption)
          obtain ⟨ad377, e377, hx377_0⟩ := Kd.at_int (Kd.R_reads' HO_3.out).2.2 x7_1 p377 q377
          cases e377
          replace p377 := eq_true p377
          replace q377 := eq_true q377
          have p378 : 0 ≤ (x7_1 : Int) := of_decide_eq_true (by first | (with_reducible assumption) | assumption)
          have q378 : x7_1 < (t364.length : Int) := of_decide_eq_true (by first | (with_reducible assumption) | assumption)
          obtain ⟨ad378, e378, hx378_0⟩ := Kd.at_int (Kd.R_reads' HO_3.out).2.2 x7_1 p378 q378
          obtain rfl : ad377 = ad378 := (by injection e378)
          replace p378 := eq_true p378
          replace q378 := eq_true q378
          go_wp2
          go_meet
          case rel => exact ⟨_, (decide ((rd t364 x7_1) < 0)), (by first | rfl | (simp; done) | (simp [*]; done)), H', ⟨by have := HK1.out; first | omega | exact Nat.le_refl _⟩, ⟨by (with_reducible repeat (first | apply Kd.R_alloc | apply Kd.R_drewN | apply Kd.R_drew)); exact HO_0.out⟩, ⟨by (with_reducible repeat (first | apply Kd.R_alloc | apply Kd.R_drewN | apply Kd.R_drew)); exact HO_3.out⟩, ⟨by (with_reducible repeat (first | apply Kd.V_alloc | apply Kd.V_drewN | apply Kd.V_drew)); exact HO_372000.out⟩, ⟨by (with_reducible repeat (first | refine blk_drewN ?_ _ | refine blk_drew ?_ | refine blk_alloc ?_ _)); exact BK371.out⟩, ⟨by repeat (first | (with_reducible first | exact HB.out | apply below_alloc | apply pw_below_drewN | apply below_drew1 | refine below_set ?_ GE371.out) | exact HB.out)⟩⟩
        ·rw [if_neg c16] at H
         exact absurd H (by simp)
       ·rw [if_neg c15] at H
        exact absurd H (by simp)
      case rest =>
       clear HC14
       try clear c1
       try clear p2
       try clear p3
       try clear q3
       try clear hx3
       try clear c4
       try clear c4b0
       try clear c4b1
       try clear c5
       try clear c5b0
       try clear c5b1
       try clear c5b2
       try clear c9
       try clear c10
       try clear c13
       try clear c13b0
       try clear c15
       try clear c15b0
       try clear c16
       try clear c16b0
       try clear c17
       try clear c17b0
       try clear hcz11_0
       try clear hfz11_0
       try clear hx377_0
       try clear hx378_0
       try clear p2
       try clear p377
       try clear p378
       try clear q377
       try clear q378
       obtain ⟨kq, x49_13, rfl, HA, HJ13, HO_0, HO_3, HO_372000, BK371, HB⟩ := hcut
       cases kq with
       | zero => exact absurd HA.out (by simp [graftwoodlaw10_InternDense.j1])
       | succ kj13 =>
        have H := HA.out
        clear HA
        simp only [graftwoodlaw10_InternDense.j1] at H
        by_cases c18 : x49_13 = true
        ·subst c18
         have H1 : (some false) = some r := by rw [if_pos rfl] at H; exact H
         clear H
         have H := H1
         clear H1
         obtain rfl := Option.some.inj H
         go_wp2
         go_ret
         exact ⟨by first | rfl | (simp [errW_none, errW_some] <;> rfl) | (simp [*, errW_none, errW_some] <;> rfl), by repeat (first | (with_reducible first | exact HB.out | apply below_alloc | apply pw_below_drewN | apply below_drew1 | refine below_set ?_ GE371.out) | exact HB.out)⟩
        ·replace c18 := Bool.eq_false_iff.mpr c18
         subst c18
         have H1 : (if 0 ≤ x7_1 then (if x7_1 < (t364.length : Int) then (if (rd t364 x7_1) = x6_1 then (graftwoodlaw10_InternDense.l0 kj13 t361 t364 (wrap64 (x6_1 + 1)) (wrap64 (x7_1 + 1)) t367) else (graftwoodlaw10_InternDense.l0 kj13 t361 t364 x6_1 (wrap64 (x7_1 + 1)) t367)) else (none)) else (none)) = some r := by rw [if_neg (show ¬ (false = true) by decide)] at H; exact H
         clear H
         have H := H1
         clear H1
         by_cases c19 : 0 ≤ x7_1
         ·rw [if_pos c19] at H
          have c19b0 : decide (0 ≤ x7_1) = true := decide_eq_true c19
          clear c19
          by_cases c20 : x7_1 < (t364.length : Int)
          ·rw [if_pos c20] at H
           have c20b0 : decide (x7_1 < (t364.length : Int)) = true := decide_eq_true c20
           clear c20
           by_cases c21 : (rd t364 x7_1) = x6_1
           ·rw [if_pos c21] at H
            have c21b0 : ((rd t364 x7_1) == x6_1) = true := beq_iff_eq.mpr c21
            have c21b1 : ((rd t364 x7_1) != x6_1) = false := bne_eq_false_iff_eq.mpr c21
            clear c21
            have H' := Aside0.mk H
            clear H
            have p379 : 0 ≤ (x7_1 : Int) := of_decide_eq_true (by first | (with_reducible assumption) | assumption)
            have q379 : x7_1 < (t364.length : Int) := of_decide_eq_true (by first | (with_reducible assumption) | assumption)
            obtain ⟨ad379, e379, hx379_0⟩ := Kd.at_int (Kd.R_reads' HO_3.out).2.2 x7_1 p379 q379
            cases e379
            replace p379 := eq_true p379
            replace q379 := eq_true q379
            go_wp2
            go_roundg kj13
            case measure => have := HK1.out; have := HJ13.out; omega
            case rel => exact ⟨(wrap64 (x6_1 + 1)), (wrap64 (x7_1 + 1)), (by first | rfl | (simp; done) | (simp [*]; done)), (by first | rfl | (simp; done) | (simp [*]; done)), H', ⟨by have := HK1.out; have := HJ13.out; omega⟩, ⟨by (with_reducible repeat (first | apply Kd.R_alloc | apply Kd.R_drewN | apply Kd.R_drew)); exact HO_0.out⟩, ⟨by (with_reducible repeat (first | apply Kd.R_alloc | apply Kd.R_drewN | apply Kd.R_drew)); exact HO_3.out⟩, ⟨by (with_reducible repeat (first | apply Kd.V_alloc | apply Kd.V_drewN | apply Kd.V_drew)); exact HO_372000.out⟩, ⟨by (with_reducible repeat (first | refine blk_drewN ?_ _ | refine blk_drew ?_ | refine blk_alloc ?_ _)); exact BK371.out⟩, ⟨by repeat (first | (with_reducible first | exact HB.out | apply below_alloc | apply pw_below_drewN | apply below_drew1 | refine below_set ?_ GE371.out) | exact HB.out)⟩⟩
           ·rw [if_neg c21] at H
            have c21b0 : ((rd t364 x7_1) == x6_1) = false := beq_eq_false_iff_ne.mpr c21
            have c21b1 : ((rd t364 x7_1) != x6_1) = true := bne_iff_ne.mpr c21
            have H' := Aside0.mk H
            clear H
            have p379 : 0 ≤ (x7_1 : Int) := of_decide_eq_true (by first | (with_reducible assumption) | assumption)
            have q379 : x7_1 < (t364.length : Int) := of_decide_eq_true (by first | (with_reducible assumption) | assumption)
            obtain ⟨ad379, e379, hx379_0⟩ := Kd.at_int (Kd.R_reads' HO_3.out).2.2 x7_1 p379 q379
            cases e379
            replace p379 := eq_true p379
            replace q379 := eq_true q379
            go_wp2
            go_roundg kj13
            case measure => have := HK1.out; have := HJ13.out; omega
            case rel => exact ⟨(x6_1), (wrap64 (x7_1 + 1)), (by first | rfl | (simp; done) | (simp [*]; done)), (by first | rfl | (simp; done) | (simp [*]; done)), H', ⟨by have := HK1.out; have := HJ13.out; omega⟩, ⟨by (with_reducible repeat (first | apply Kd.R_alloc | apply Kd.R_drewN | apply Kd.R_drew)); exact HO_0.out⟩, ⟨by (with_reducible repeat (first | apply Kd.R_alloc | apply Kd.R_drewN | apply Kd.R_drew)); exact HO_3.out⟩, ⟨by (with_reducible repeat (first | apply Kd.V_alloc | apply Kd.V_drewN | apply Kd.V_drew)); exact HO_372000.out⟩, ⟨by (with_reducible repeat (first | refine blk_drewN ?_ _ | refine blk_drew ?_ | refine blk_alloc ?_ _)); exact BK371.out⟩, ⟨by repeat (first | (with_reducible first | exact HB.out | apply below_alloc | apply pw_below_drewN | apply below_drew1 | refine below_set ?_ GE371.out) | exact HB.out)⟩⟩
          ·rw [if_neg c20] at H
           exact absurd H (by simp)
         ·rw [if_neg c19] at H
          exact absurd H (by simp)
     ·rw [if_neg c13] at H
      have c13b0 : decide (x7_1 < (t361.length : Int)) = false := decide_eq_false c13
      clear c13
      by_cases c22 : x6_1 = (t367.length : Int)
      ·rw [if_pos c22] at H
       have c22b0 : (x6_1 == (t367.length : Int)) = true := beq_iff_eq.mpr c22
       have c22b1 : (x6_1 != (t367.length : Int)) = false := bne_eq_false_iff_eq.mpr c22
       clear c22
       replace H := Option.bind_eq_some_iff.mp H
       obtain ⟨t373, A230, H⟩ := H
       replace H : (if x6_1 = (t373.length : Int) then ((graftwoodlaw10_awake.f k1).bind fun t376 => (some t376)) else (some false)) = some r := H
       have A23 := Aside0.mk A230
       clear A230
       by_cases c24 : x6_1 = (t373.length : Int)
       ·rw [if_pos c24] at H
        have c24b0 : (x6_1 == (t373.length : Int)) = true := beq_iff_eq.mpr c24
        have c24b1 : (x6_1 != (t373.length : Int)) = false := bne_eq_false_iff_eq.mpr c24
        clear c24
        replace H := Option.bind_eq_some_iff.mp H
        obtain ⟨t376, A250, H⟩ := H
        replace H : (some t376) = some r := H
        have A25 := Aside0.mk A250
        clear A250
        obtain rfl := Option.some.inj H
        have hcz26_0 : wr.cell? ⟨gb371, 0, none⟩ = some (.slice Ao10 t367.length co10) := (blk_cell BK371.out 0).trans rfl
        have hfz26_0 := blk_frozen BK371.out 0
        go_wp2_with (first | (go_at_call 16; (with_reducible refine (graftwoodref05_Set.calls k1 _ _ t361 t373 _ ?side1 ?side2 A23.out).mono ?_); (case side1 => repeat (first | exact (Kd.R_reads' HO_0.out).2.2 | (with_reducible refine Kd.C_alloc ?_ _) | (with_reducible refine Kd.C_drewN ?_ _) | (with_reducible refine Kd.C_drew ?_))); (case side2 => exact (Kd.R_reads' HO_0.out).2.1); rintro e w27 ⟨v374, rfl, ho0, hb⟩; have n0_ := Aside0.mk (Kd.R_elder' (by (with_reducible repeat (first | apply Kd.R_alloc | apply Kd.R_drewN | apply Kd.R_drew)); exact HO_0.out) (Kd.R_base ho0) hb); have n1_ := Aside0.mk (Kd.R_below (by (with_reducible repeat (first | apply Kd.R_alloc | apply Kd.R_drewN | apply Kd.R_drew)); exact HO_3.out) hb); have n2_ := Aside0.mk (Kd.V_elder' (by (with_reducible repeat (first | apply Kd.V_alloc | apply Kd.V_drewN | apply Kd.V_drew)); exact HO_372000.out) (Kd.R_base ho0) hb); have n3_ := Aside0.mk (Kd.R_lower (Kd.R_new' ho0 (Kd.R_lt (by (with_reducible repeat (first | apply Kd.R_alloc | apply Kd.R_drewN | apply Kd.R_drew)); exact HO_0.out))) (below_size (by repeat (first | (with_reducible first | exact HB.out | apply below_alloc | apply pw_below_drewN | apply below_drew1 | refine below_set ?_ GE371.out) | exact HB.out)))); have n4_ := Aside0.mk (blk_below (g := gb371) (o := .cells #[.slice Ao10 t367.length co10] 24 (0, 0)) (by (with_reducible repeat (first | refine blk_drewN ?_ _ | refine blk_drew ?_ | refine blk_alloc ?_ _)); exact BK371.out) hb); have n5_ := Aside0.mk (below_step (by repeat (first | (with_reducible first | exact HB.out | apply below_alloc | apply pw_below_drewN | apply below_drew1 | refine below_set ?_ GE371.out) | exact HB.out)) hb); clear HO_0; clear HO_3; clear HO_372000; clear BK371; clear HB; have HO_0 := n0_; have HO_3 := n1_; have HO_372000 := n2_; have HO375 := n3_; have BK371 := n4_; have HB := n5_; clear n0_ n1_ n2_ n3_ n4_ n5_; (try clear hb); (try clear hb2); (try clear hk); (try clear hi); (try clear ho0); obtain ⟨Ao28, co28, eo28⟩ := Kd.R_slice HO375.out; subst eo28) | (go_at_call 14; (with_reducible refine (graftwoodlaw10_awake.calls k1  t376 _ A25.out).mono ?_); rintro e w29 ⟨rfl, hb⟩; have n0_ := Aside0.mk (Kd.R_below (by (with_reducible repeat (first | apply Kd.R_alloc | apply Kd.R_drewN | apply Kd.R_drew)); exact HO_0.out) hb); have n1_ := Aside0.mk (Kd.R_below (by (with_reducible repeat (first | apply Kd.R_alloc | apply Kd.R_drewN | apply Kd.R_drew)); exact HO_3.out) hb); have n2_ := Aside0.mk (Kd.V_below (by (with_reducible repeat (first | apply Kd.V_alloc | apply Kd.V_drewN | apply Kd.V_drew)); exact HO_372000.out) hb); have n3_ := Aside0.mk (Kd.R_below (by (with_reducible repeat (first | apply Kd.R_alloc | apply Kd.R_drewN | apply Kd.R_drew)); exact HO375.out) hb); have n4_ := Aside0.mk (blk_below (g := gb371) (o := .cells #[.slice Ao10 t367.length co10] 24 (0, 0)) (by (with_reducible repeat (first | refine blk_drewN ?_ _ | refine blk_drew ?_ | refine blk_alloc ?_ _)); exact BK371.out) hb); have n5_ := Aside0.mk (below_step (by repeat (first | (with_reducible first | exact HB.out | apply below_alloc | apply pw_below_drewN | apply below_drew1 | refine below_set ?_ GE371.out) | exact HB.out)) hb); clear HO_0; clear HO_3; clear HO_372000; clear HO375; clear BK371; clear HB; have HO_0 := n0_; have HO_3 := n1_; have HO_372000 := n2_; have HO375 := n3_; have BK371 := n4_; have HB := n5_; clear n0_ n1_ n2_ n3_ n4_ n5_; (try clear hb); (try clear hb2); (try clear hk); (try clear hi)))
        go_ret
        exact ⟨by first | rfl | (simp [errW_none, errW_some] <;> rfl) | (simp [*, errW_none, errW_some] <;> rfl), by repeat (first | (with_reducible first | exact HB.out | apply below_alloc | apply pw_below_drewN | apply below_drew1 | refine below_set ?_ GE371.out) | exact HB.out)⟩
       ·rw [if_neg c24] at H
        have c24b0 : (x6_1 == (t373.length : Int)) = false := beq_eq_false_iff_ne.mpr c24
        have c24b1 : (x6_1 != (t373.length : Int)) = true := bne_iff_ne.mpr c24
        obtain rfl := Option.some.inj H
        have hcz30_0 : wr.cell? ⟨gb371, 0, none⟩ = some (.slice Ao10 t367.length co10) := (blk_cell BK371.out 0).trans rfl
        have hfz30_0 := blk_frozen BK371.out 0
        go_wp2_with (first | (go_at_call 16; (with_reducible refine (graftwoodref05_Set.calls k1 _ _ t361 t373 _ ?side1 ?side2 A23.out).mono ?_); (case side1 => repeat (first | exact (Kd.R_reads' HO_0.out).2.2 | (with_reducible refine Kd.C_alloc ?_ _) | (with_reducible refine Kd.C_drewN ?_ _) | (with_reducible refine Kd.C_drew ?_))); (case side2 => exact (Kd.R_reads' HO_0.out).2.1); rintro e w31 ⟨v374, rfl, ho0, hb⟩; have n0_ := Aside0.mk (Kd.R_elder' (by (with_reducible repeat (first | apply Kd.R_alloc | apply Kd.R_drewN | apply Kd.R_drew)); exact HO_0.out) (Kd.R_base ho0) hb); have n1_ := Aside0.mk (Kd.R_below (by (with_reducible repeat (first | apply Kd.R_alloc | apply Kd.R_drewN | apply Kd.R_drew)); exact HO_3.out) hb); have n2_ := Aside0.mk (Kd.V_elder' (by (with_reducible repeat (first | apply Kd.V_alloc | apply Kd.V_drewN | apply Kd.V_drew)); exact HO_372000.out) (Kd.R_base ho0) hb); have n3_ := Aside0.mk (Kd.R_lower (Kd.R_new' ho0 (Kd.R_lt (by (with_reducible repeat (first | apply Kd.R_alloc | apply Kd.R_drewN | apply Kd.R_drew)); exact HO_0.out))) (below_size (by repeat (first | (with_reducible first | exact HB.out | apply below_alloc | apply pw_below_drewN | apply below_drew1 | refine below_set ?_ GE371.out) | exact HB.out)))); have n4_ := Aside0.mk (blk_below (g := gb371) (o := .cells #[.slice Ao10 t367.length co10] 24 (0, 0)) (by (with_reducible repeat (first | refine blk_drewN ?_ _ | refine blk_drew ?_ | refine blk_alloc ?_ _)); exact BK371.out) hb); have n5_ := Aside0.mk (below_step (by repeat (first | (with_reducible first | exact HB.out | apply below_alloc | apply pw_below_drewN | apply below_drew1 | refine below_set ?_ GE371.out) | exact HB.out)) hb); clear HO_0; clear HO_3; clear HO_372000; clear BK371; clear HB; have HO_0 := n0_; have HO_3 := n1_; have HO_372000 := n2_; have HO375 := n3_; have BK371 := n4_; have HB := n5_; clear n0_ n1_ n2_ n3_ n4_ n5_; (try clear hb); (try clear hb2); (try clear hk); (try clear hi); (try clear ho0); obtain ⟨Ao32, co32, eo32⟩ := Kd.R_slice HO375.out; subst eo32))
        go_ret
        exact ⟨by first | rfl | (simp [errW_none, errW_some] <;> rfl) | (simp [*, errW_none, errW_some] <;> rfl), by repeat (first | (with_reducible first | exact HB.out | apply below_alloc | apply pw_below_drewN | apply below_drew1 | refine below_set ?_ GE371.out) | exact HB.out)⟩
      ·rw [if_neg c22] at H
       have c22b0 : (x6_1 == (t367.length : Int)) = false := beq_eq_false_iff_ne.mpr c22
       have c22b1 : (x6_1 != (t367.length : Int)) = true := bne_iff_ne.mpr c22
       obtain rfl := Option.some.inj H
       have hcz33_0 : wr.cell? ⟨gb371, 0, none⟩ = some (.slice Ao10 t367.length co10) := (blk_cell BK371.out 0).trans rfl
       have hfz33_0 := blk_frozen BK371.out 0
       go_wp2
       go_ret
       exact ⟨by first | rfl | (simp [errW_none, errW_some] <;> rfl) | (simp [*, errW_none, errW_some] <;> rfl), by repeat (first | (with_reducible first | exact HB.out | apply below_alloc | apply pw_below_drewN | apply below_drew1 | refine below_set ?_ GE371.out) | exact HB.out)⟩
  ·rw [if_neg c5] at H
   have c5b0 : ((t364.length : Int) == (t361.length : Int)) = false := beq_eq_false_iff_ne.mpr c5
   have c5b1 : ((t364.length : Int) != (t361.length : Int)) = true := bne_iff_ne.mpr c5
   have c5b2 : (t364.length == t361.length) = false := by first | simpa using c5 | (simp at c5 ⊢; omega)
   obtain rfl := Option.some.inj H
   go_enter Tryd.func4, Tryd.ntmps4
   go_wp2_with (first | ((with_reducible refine gate_callee (f := 9) rfl ?_); refine goesL_ (some 9) rfl rfl Tryd.func9 (by kernel_rfl) rfl #[.slice A0 l0.length c0] rfl (by (try simp only [List.map_toArray, List.map_cons, List.map_nil]); first | done | rfl | (simp only [List.length_drop, List.length_take]; rfl)) ?_; (with_reducible refine (graftwoodlaw05_Few.calls k _ _ l0 t361 _ ?side1 ?side2 A2.out).mono ?_); (case side1 => repeat (first | exact HR0.out | (with_reducible refine Kd.C_alloc ?_ _) | (with_reducible refine Kd.C_drewN ?_ _) | (with_reducible refine Kd.C_drew ?_))); (case side2 => exact HC0.out); rintro e w34 ⟨v362, rfl, ho0, hb⟩; refine ⟨_, rfl, ?_⟩; have n0_ := Aside0.mk (Kd.R_lower ho0 (below_size (by repeat (first | (with_reducible first | exact HB.out | apply below_alloc | apply pw_below_drewN | apply below_drew1) | exact HB.out)))); have n1_ := Aside0.mk (below_step (by repeat (first | (with_reducible first | exact HB.out | apply below_alloc | apply pw_below_drewN | apply below_drew1) | exact HB.out)) hb); clear HB; have HO363 := n0_; have HB := n1_; clear n0_ n1_; (try clear hb); (try clear hb2); (try clear hk); (try clear hi); (try clear ho0); obtain ⟨Ao35, co35, eo35⟩ := Kd.R_slice HO363.out; subst eo35) | ((with_reducible refine gate_callee (f := 10) rfl ?_); refine goesL_ (some 13) rfl rfl Tryd.func10 (by kernel_rfl) rfl #[.agg #[.slice none 0 0], .slice Ao35 t361.length co35] rfl (by (try simp only [List.map_toArray, List.map_cons, List.map_nil]); first | done | rfl | (simp only [List.length_drop, List.length_take]; rfl)) ?_; (refine (intern_All.calls k (fun k_ => False) _ _ ([] : List (S34)) _ _ t361 t364 t367 t370 _ ?side1 ?side2 ?side3 A3.out).mono ?_); (case side1 => exact Kd.V_nil _ _ _ _ _); (case side2 => repeat (first | exact (Kd.R_reads' HO363.out).2.2 | (with_reducible refine Kd.C_alloc ?_ _) | (with_reducible refine Kd.C_drewN ?_ _) | (with_reducible refine Kd.C_drew ?_))); (case side3 => exact (Kd.R_reads' HO363.out).2.1); rintro e w36 ⟨v365, v368, rfl, ho0, ho1, hb⟩; refine ⟨_, rfl, ?_⟩; have n0_ := Aside0.mk (Kd.R_below (by (with_reducible repeat (first | apply Kd.R_alloc | apply Kd.R_drewN | apply Kd.R_drew)); exact HO363.out) hb); have n1_ := Aside0.mk (Kd.R_lower (Kd.R_mono (ok' := fun k_ => True) ho0 (fun _ hk_ => trivial)) (below_size (by repeat (first | (with_reducible first | exact HB.out | apply below_alloc | apply pw_below_drewN | apply below_drew1) | exact HB.out)))); have n2_ := Aside0.mk (Kd.V_lower (Kd.V_mono (ok' := fun k_ => some k_ ≠ (v365 : Value).ownBlock ∧ some k_ ≠ (.slice Ao35 t361.length co35 : Value).ownBlock) ho1 (fun k_ hk_ => ⟨hk_.2, Or.elim hk_.1 (fun hs_ => (hs_).elim) (fun hn_ => (Kd.fresh' (Kd.R_lt (by (with_reducible repeat (first | apply Kd.R_alloc | apply Kd.R_drewN | apply Kd.R_drew)); exact HO363.out)) k_ hn_))⟩)) (below_size (by repeat (first | (with_reducible first | exact HB.out | apply below_alloc | apply pw_below_drewN | apply below_drew1) | exact HB.out)))); have n3_ := Aside0.mk (below_step (by repeat (first | (with_reducible first | exact HB.out | apply below_alloc | apply pw_below_drewN | apply below_drew1) | exact HB.out)) hb); clear HO363; clear HB; have HO363 := n0_; have HO366 := n1_; have HO369 := n2_; have HB := n3_; clear n0_ n1_ n2_ n3_; (try clear hb); (try clear hb2); (try clear hk); (try clear hi); (try clear ho0); (try clear ho1)) | ((with_reducible refine gate_dst (N := 4) rfl ?_); (try (refine gate_guard (by rfl) ?_; dsimp only)); refine box_event ?hg (N := 4) ?hd (cs := #[.slice none 0 0]) (t := 24) ?hr ?_; (case hd => rfl); (case hg => rfl); (case hr => first | (go_simp; done) | (go_simp; rfl)); intro gb371 hg w37 hbox hb; have n0_ := Aside0.mk (Kd.R_below (by (with_reducible repeat (first | apply Kd.R_alloc | apply Kd.R_drewN | apply Kd.R_drew)); exact HO363.out) hb); have n1_ := Aside0.mk (Kd.R_below (by (with_reducible repeat (first | apply Kd.R_alloc | apply Kd.R_drewN | apply Kd.R_drew)); exact HO366.out) hb); have n2_ := Aside0.mk (Kd.V_below (Kd.V_elderB (by (with_reducible repeat (first | apply Kd.V_alloc | apply Kd.V_drewN | apply Kd.V_drew)); exact HO369.out) gb371 (Nat.le_of_eq hg.symm)) hb); have n3_ := Aside0.mk (below_step (by repeat (first | (with_reducible first | exact HB.out | apply below_alloc | apply pw_below_drewN | apply below_drew1) | exact HB.out)) hb); have n4_ := Aside0.mk (hbox); have n5_ := Aside0.mk ((by rw [hg]; exact (below_size (by repeat (first | (with_reducible first | exact HB.out | apply below_alloc | apply pw_below_drewN | apply below_drew1) | exact HB.out))) : w.heap.size ≤ gb371)); have n6_ := Aside0.mk ((by rw [hg]; exact (below_size (by repeat (first | (with_reducible first | exact HB.out | apply below_alloc | apply pw_below_drewN | apply below_drew1) | exact HB.out))) : w.heap.size ≤ gb371)); clear HO363; clear HO366; clear HO369; clear HB; have HO363 := n0_; have HO366 := n1_; have HO369 := n2_; have HB := n3_; have BK371 := n4_; have GW371 := n5_; have GE371 := n6_; clear n0_ n1_ n2_ n3_ n4_ n5_ n6_; clear hb hbox hg; obtain ⟨Ao38, co38, eo38⟩ := Kd.V_slice HO369.out; subst eo38; have hcz39_0 : w37.cell? ⟨gb371, 0, none⟩ = some (.slice none 0 0) := (blk_cell BK371.out 0).trans rfl; have hfz39_0 := blk_frozen BK371.out 0; obtain ⟨Ao40, co40, eo40⟩ := Kd.R_slice HO366.out; subst eo40))
   go_ret
   exact ⟨by first | rfl | (simp [errW_none, errW_some] <;> rfl) | (simp [*, errW_none, errW_some] <;> rfl), by repeat (first | (with_reducible first | exact HB.out | apply below_alloc | apply pw_below_drewN | apply below_drew1 | refine below_set ?_ GE371.out) | exact HB.out)⟩
 ·rw [if_neg c4] at H
  have c4b0 : (t370 == 0) = false := beq_eq_false_iff_ne.mpr c4
  have c4b1 : (t370 != 0) = true := bne_iff_ne.mpr c4
  by_cases c41 : (t367.length : Int) = 0
  ·rw [if_pos c41] at H
   have c41b0 : ((t367.length : Int) == 0) = true := beq_iff_eq.mpr c41
   have c41b1 : ((t367.length : Int) != 0) = false := bne_eq_false_iff_eq.mpr c41
   clear c41
   replace H := Option.bind_eq_some_iff.mp H
   obtain ⟨t372, A420, H⟩ := H
   replace H : (some t372) = some r := H
   have A42 := Aside0.mk A420
   clear A420
   obtain rfl := Option.some.inj H
   go_enter Tryd.func4, Tryd.ntmps4
   go_wp2_with (first | ((with_reducible refine gate_callee (f := 9) rfl ?_); refine goesL_ (some 9) rfl rfl Tryd.func9 (by kernel_rfl) rfl #[.slice A0 l0.length c0] rfl (by (try simp only [List.map_toArray, List.map_cons, List.map_nil]); first | done | rfl | (simp only [List.length_drop, List.length_take]; rfl)) ?_; (with_reducible refine (graftwoodlaw05_Few.calls k _ _ l0 t361 _ ?side1 ?side2 A2.out).mono ?_); (case side1 => repeat (first | exact HR0.out | (with_reducible refine Kd.C_alloc ?_ _) | (with_reducible refine Kd.C_drewN ?_ _) | (with_reducible refine Kd.C_drew ?_))); (case side2 => exact HC0.out); rintro e w43 ⟨v362, rfl, ho0, hb⟩; refine ⟨_, rfl, ?_⟩; have n0_ := Aside0.mk (Kd.R_lower ho0 (below_size (by repeat (first | (with_reducible first | exact HB.out | apply below_alloc | apply pw_below_drewN | apply below_drew1) | exact HB.out)))); have n1_ := Aside0.mk (below_step (by repeat (first | (with_reducible first | exact HB.out | apply below_alloc | apply pw_below_drewN | apply below_drew1) | exact HB.out)) hb); clear HB; have HO363 := n0_; have HB := n1_; clear n0_ n1_; (try clear hb); (try clear hb2); (try clear hk); (try clear hi); (try clear ho0); obtain ⟨Ao44, co44, eo44⟩ := Kd.R_slice HO363.out; subst eo44) | ((with_reducible refine gate_callee (f := 10) rfl ?_); refine goesL_ (some 13) rfl rfl Tryd.func10 (by kernel_rfl) rfl #[.agg #[.slice none 0 0], .slice Ao44 t361.length co44] rfl (by (try simp only [List.map_toArray, List.map_cons, List.map_nil]); first | done | rfl | (simp only [List.length_drop, List.length_take]; rfl)) ?_; (refine (intern_All.calls k (fun k_ => False) _ _ ([] : List (S34)) _ _ t361 t364 t367 t370 _ ?side1 ?side2 ?side3 A3.out).mono ?_); (case side1 => exact Kd.V_nil _ _ _ _ _); (case side2 => repeat (first | exact (Kd.R_reads' HO363.out).2.2 | (with_reducible refine Kd.C_alloc ?_ _) | (with_reducible refine Kd.C_drewN ?_ _) | (with_reducible refine Kd.C_drew ?_))); (case side3 => exact (Kd.R_reads' HO363.out).2.1); rintro e w45 ⟨v365, v368, rfl, ho0, ho1, hb⟩; refine ⟨_, rfl, ?_⟩; have n0_ := Aside0.mk (Kd.R_below (by (with_reducible repeat (first | apply Kd.R_alloc | apply Kd.R_drewN | apply Kd.R_drew)); exact HO363.out) hb); have n1_ := Aside0.mk (Kd.R_lower (Kd.R_mono (ok' := fun k_ => True) ho0 (fun _ hk_ => trivial)) (below_size (by repeat (first | (with_reducible first | exact HB.out | apply below_alloc | apply pw_below_drewN | apply below_drew1) | exact HB.out)))); have n2_ := Aside0.mk (Kd.V_lower (Kd.V_mono (ok' := fun k_ => some k_ ≠ (v365 : Value).ownBlock ∧ some k_ ≠ (.slice Ao44 t361.length co44 : Value).ownBlock) ho1 (fun k_ hk_ => ⟨hk_.2, Or.elim hk_.1 (fun hs_ => (hs_).elim) (fun hn_ => (Kd.fresh' (Kd.R_lt (by (with_reducible repeat (first | apply Kd.R_alloc | apply Kd.R_drewN | apply Kd.R_drew)); exact HO363.out)) k_ hn_))⟩)) (below_size (by repeat (first | (with_reducible first | exact HB.out | apply below_alloc | apply pw_below_drewN | apply below_drew1) | exact HB.out)))); have n3_ := Aside0.mk (below_step (by repeat (first | (with_reducible first | exact HB.out | apply below_alloc | apply pw_below_drewN | apply below_drew1) | exact HB.out)) hb); clear HO363; clear HB; have HO363 := n0_; have HO366 := n1_; have HO369 := n2_; have HB := n3_; clear n0_ n1_ n2_ n3_; (try clear hb); (try clear hb2); (try clear hk); (try clear hi); (try clear ho0); (try clear ho1)) | ((with_reducible refine gate_dst (N := 4) rfl ?_); (try (refine gate_guard (by rfl) ?_; dsimp only)); refine box_event ?hg (N := 4) ?hd (cs := #[.slice none 0 0]) (t := 24) ?hr ?_; (case hd => rfl); (case hg => rfl); (case hr => first | (go_simp; done) | (go_simp; rfl)); intro gb371 hg w46 hbox hb; have n0_ := Aside0.mk (Kd.R_below (by (with_reducible repeat (first | apply Kd.R_alloc | apply Kd.R_drewN | apply Kd.R_drew)); exact HO363.out) hb); have n1_ := Aside0.mk (Kd.R_below (by (with_reducible repeat (first | apply Kd.R_alloc | apply Kd.R_drewN | apply Kd.R_drew)); exact HO366.out) hb); have n2_ := Aside0.mk (Kd.V_below (Kd.V_elderB (by (with_reducible repeat (first | apply Kd.V_alloc | apply Kd.V_drewN | apply Kd.V_drew)); exact HO369.out) gb371 (Nat.le_of_eq hg.symm)) hb); have n3_ := Aside0.mk (below_step (by repeat (first | (with_reducible first | exact HB.out | apply below_alloc | apply pw_below_drewN | apply below_drew1) | exact HB.out)) hb); have n4_ := Aside0.mk (hbox); have n5_ := Aside0.mk ((by rw [hg]; exact (below_size (by repeat (first | (with_reducible first | exact HB.out | apply below_alloc | apply pw_below_drewN | apply below_drew1) | exact HB.out))) : w.heap.size ≤ gb371)); have n6_ := Aside0.mk ((by rw [hg]; exact (below_size (by repeat (first | (with_reducible first | exact HB.out | apply below_alloc | apply pw_below_drewN | apply below_drew1) | exact HB.out))) : w.heap.size ≤ gb371)); clear HO363; clear HO366; clear HO369; clear HB; have HO363 := n0_; have HO366 := n1_; have HO369 := n2_; have HB := n3_; have BK371 := n4_; have GW371 := n5_; have GE371 := n6_; clear n0_ n1_ n2_ n3_ n4_ n5_ n6_; clear hb hbox hg; obtain ⟨Ao47, co47, eo47⟩ := Kd.V_slice HO369.out; subst eo47; have hcz48_0 : w46.cell? ⟨gb371, 0, none⟩ = some (.slice none 0 0) := (blk_cell BK371.out 0).trans rfl; have hfz48_0 := blk_frozen BK371.out 0) | (go_at_call 14; (with_reducible refine (graftwoodlaw10_awake.calls k  t372 _ A42.out).mono ?_); rintro e w49 ⟨rfl, hb⟩; have n0_ := Aside0.mk (Kd.R_below (by (with_reducible repeat (first | apply Kd.R_alloc | apply Kd.R_drewN | apply Kd.R_drew)); exact (Kd.R_mono (Kd.R_far (p := ⟨gb371, 0, none⟩) (Kd.R_types HO363.out BK371.out (by decide)) (fun _ hk => hk.2) (.slice Ao47 t367.length co47)) (fun _ h_ => h_.1))) hb); have n1_ := Aside0.mk (Kd.R_below (by (with_reducible repeat (first | apply Kd.R_alloc | apply Kd.R_drewN | apply Kd.R_drew)); exact (Kd.R_mono (Kd.R_far (p := ⟨gb371, 0, none⟩) (Kd.R_types HO366.out BK371.out (by decide)) (fun _ hk => hk.2) (.slice Ao47 t367.length co47)) (fun _ h_ => h_.1))) hb); have n2_ := Aside0.mk (Kd.V_below (by (with_reducible repeat (first | apply Kd.V_alloc | apply Kd.V_drewN | apply Kd.V_drew)); exact (Kd.V_mono (Kd.V_far (p := ⟨gb371, 0, none⟩) (Kd.V_mono HO369.out (fun k_ hk => (⟨hk, hk.2⟩ : _ ∧ k_ ≠ gb371))) (fun _ hk => hk.2) (.slice Ao47 t367.length co47)) (fun _ h_ => h_.1))) hb); have n3_ := Aside0.mk (blk_below (g := gb371) (o := .cells #[.slice Ao47 t367.length co47] 24 (0, 0)) (by (with_reducible repeat (first | refine blk_drewN ?_ _ | refine blk_drew ?_ | refine blk_alloc ?_ _)); refine blk_put (cs := #[.slice none 0 0]) ?_ 0 _ rfl; (with_reducible repeat (first | refine blk_drewN ?_ _ | refine blk_drew ?_ | refine blk_alloc ?_ _)); exact BK371.out) hb); have n4_ := Aside0.mk (below_step (by repeat (first | (with_reducible first | exact HB.out | apply below_alloc | apply pw_below_drewN | apply below_drew1 | refine below_set ?_ GE371.out) | exact HB.out)) hb); clear HO363; clear HO366; clear HO369; clear BK371; clear HB; have HO363 := n0_; have HO366 := n1_; have HO369 := n2_; have BK371 := n3_; have HB := n4_; clear n0_ n1_ n2_ n3_ n4_; (try clear hb); (try clear hb2); (try clear hk); (try clear hi)))
   go_ret
   exact ⟨by first | rfl | (simp [errW_none, errW_some] <;> rfl) | (simp [*, errW_none, errW_some] <;> rfl), by repeat (first | (with_reducible first | exact HB.out | apply below_alloc | apply pw_below_drewN | apply below_drew1 | refine below_set ?_ GE371.out) | exact HB.out)⟩
  ·rw [if_neg c41] at H
   have c41b0 : ((t367.length : Int) == 0) = false := beq_eq_false_iff_ne.mpr c41
   have c41b1 : ((t367.length : Int) != 0) = true := bne_iff_ne.mpr c41
   have c41b2 : ¬ (t367 = []) := fun h_ => c41 (by rw [h_]; rfl)
   obtain rfl := Option.some.inj H
   go_enter Tryd.func4, Tryd.ntmps4
   go_wp2_with (first | ((with_reducible refine gate_callee (f := 9) rfl ?_); refine goesL_ (some 9) rfl rfl Tryd.func9 (by kernel_rfl) rfl #[.slice A0 l0.length c0] rfl (by (try simp only [List.map_toArray, List.map_cons, List.map_nil]); first | done | rfl | (simp only [List.length_drop, List.length_take]; rfl)) ?_; (with_reducible refine (graftwoodlaw05_Few.calls k _ _ l0 t361 _ ?side1 ?side2 A2.out).mono ?_); (case side1 => repeat (first | exact HR0.out | (with_reducible refine Kd.C_alloc ?_ _) | (with_reducible refine Kd.C_drewN ?_ _) | (with_reducible refine Kd.C_drew ?_))); (case side2 => exact HC0.out); rintro e w50 ⟨v362, rfl, ho0, hb⟩; refine ⟨_, rfl, ?_⟩; have n0_ := Aside0.mk (Kd.R_lower ho0 (below_size (by repeat (first | (with_reducible first | exact HB.out | apply below_alloc | apply pw_below_drewN | apply below_drew1) | exact HB.out)))); have n1_ := Aside0.mk (below_step (by repeat (first | (with_reducible first | exact HB.out | apply below_alloc | apply pw_below_drewN | apply below_drew1) | exact HB.out)) hb); clear HB; have HO363 := n0_; have HB := n1_; clear n0_ n1_; (try clear hb); (try clear hb2); (try clear hk); (try clear hi); (try clear ho0); obtain ⟨Ao51, co51, eo51⟩ := Kd.R_slice HO363.out; subst eo51) | ((with_reducible refine gate_callee (f := 10) rfl ?_); refine goesL_ (some 13) rfl rfl Tryd.func10 (by kernel_rfl) rfl #[.agg #[.slice none 0 0], .slice Ao51 t361.length co51] rfl (by (try simp only [List.map_toArray, List.map_cons, List.map_nil]); first | done | rfl | (simp only [List.length_drop, List.length_take]; rfl)) ?_; (refine (intern_All.calls k (fun k_ => False) _ _ ([] : List (S34)) _ _ t361 t364 t367 t370 _ ?side1 ?side2 ?side3 A3.out).mono ?_); (case side1 => exact Kd.V_nil _ _ _ _ _); (case side2 => repeat (first | exact (Kd.R_reads' HO363.out).2.2 | (with_reducible refine Kd.C_alloc ?_ _) | (with_reducible refine Kd.C_drewN ?_ _) | (with_reducible refine Kd.C_drew ?_))); (case side3 => exact (Kd.R_reads' HO363.out).2.1); rintro e w52 ⟨v365, v368, rfl, ho0, ho1, hb⟩; refine ⟨_, rfl, ?_⟩; have n0_ := Aside0.mk (Kd.R_below (by (with_reducible repeat (first | apply Kd.R_alloc | apply Kd.R_drewN | apply Kd.R_drew)); exact HO363.out) hb); have n1_ := Aside0.mk (Kd.R_lower (Kd.R_mono (ok' := fun k_ => True) ho0 (fun _ hk_ => trivial)) (below_size (by repeat (first | (with_reducible first | exact HB.out | apply below_alloc | apply pw_below_drewN | apply below_drew1) | exact HB.out)))); have n2_ := Aside0.mk (Kd.V_lower (Kd.V_mono (ok' := fun k_ => some k_ ≠ (v365 : Value).ownBlock ∧ some k_ ≠ (.slice Ao51 t361.length co51 : Value).ownBlock) ho1 (fun k_ hk_ => ⟨hk_.2, Or.elim hk_.1 (fun hs_ => (hs_).elim) (fun hn_ => (Kd.fresh' (Kd.R_lt (by (with_reducible repeat (first | apply Kd.R_alloc | apply Kd.R_drewN | apply Kd.R_drew)); exact HO363.out)) k_ hn_))⟩)) (below_size (by repeat (first | (with_reducible first | exact HB.out | apply below_alloc | apply pw_below_drewN | apply below_drew1) | exact HB.out)))); have n3_ := Aside0.mk (below_step (by repeat (first | (with_reducible first | exact HB.out | apply below_alloc | apply pw_below_drewN | apply below_drew1) | exact HB.out)) hb); clear HO363; clear HB; have HO363 := n0_; have HO366 := n1_; have HO369 := n2_; have HB := n3_; clear n0_ n1_ n2_ n3_; (try clear hb); (try clear hb2); (try clear hk); (try clear hi); (try clear ho0); (try clear ho1)) | ((with_reducible refine gate_dst (N := 4) rfl ?_); (try (refine gate_guard (by rfl) ?_; dsimp only)); refine box_event ?hg (N := 4) ?hd (cs := #[.slice none 0 0]) (t := 24) ?hr ?_; (case hd => rfl); (case hg => rfl); (case hr => first | (go_simp; done) | (go_simp; rfl)); intro gb371 hg w53 hbox hb; have n0_ := Aside0.mk (Kd.R_below (by (with_reducible repeat (first | apply Kd.R_alloc | apply Kd.R_drewN | apply Kd.R_drew)); exact HO363.out) hb); have n1_ := Aside0.mk (Kd.R_below (by (with_reducible repeat (first | apply Kd.R_alloc | apply Kd.R_drewN | apply Kd.R_drew)); exact HO366.out) hb); have n2_ := Aside0.mk (Kd.V_below (Kd.V_elderB (by (with_reducible repeat (first | apply Kd.V_alloc | apply Kd.V_drewN | apply Kd.V_drew)); exact HO369.out) gb371 (Nat.le_of_eq hg.symm)) hb); have n3_ := Aside0.mk (below_step (by repeat (first | (with_reducible first | exact HB.out | apply below_alloc | apply pw_below_drewN | apply below_drew1) | exact HB.out)) hb); have n4_ := Aside0.mk (hbox); have n5_ := Aside0.mk ((by rw [hg]; exact (below_size (by repeat (first | (with_reducible first | exact HB.out | apply below_alloc | apply pw_below_drewN | apply below_drew1) | exact HB.out))) : w.heap.size ≤ gb371)); have n6_ := Aside0.mk ((by rw [hg]; exact (below_size (by repeat (first | (with_reducible first | exact HB.out | apply below_alloc | apply pw_below_drewN | apply below_drew1) | exact HB.out))) : w.heap.size ≤ gb371)); clear HO363; clear HO366; clear HO369; clear HB; have HO363 := n0_; have HO366 := n1_; have HO369 := n2_; have HB := n3_; have BK371 := n4_; have GW371 := n5_; have GE371 := n6_; clear n0_ n1_ n2_ n3_ n4_ n5_ n6_; clear hb hbox hg; obtain ⟨Ao54, co54, eo54⟩ := Kd.V_slice HO369.out; subst eo54; have hcz55_0 : w53.cell? ⟨gb371, 0, none⟩ = some (.slice none 0 0) := (blk_cell BK371.out 0).trans rfl; have hfz55_0 := blk_frozen BK371.out 0))
   go_ret
   exact ⟨by first | rfl | (simp [errW_none, errW_some] <;> rfl) | (simp [*, errW_none, errW_some] <;> rfl), by repeat (first | (with_reducible first | exact HB.out | apply below_alloc | apply pw_below_drewN | apply below_drew1 | refine below_set ?_ GE371.out) | exact HB.out)⟩

end Go.Proofs.YtjneghnknfhboaaDoor.P
