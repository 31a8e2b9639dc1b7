-- Written by this project's own program (wip/tools/hp.py), driving the kit's print; hand texts among it. Not trusted: Lean checks it.
-- half the indentation
import Derived.Test.YtjneghnknfhboaaDoorP0
import Derived.Test.YtjneghnknfhboaaDoorP2
import Derived.Test.YtjneghnknfhboaaDoorP17
import Derived.Test.YtjneghnknfhboaaDoorP20
import Derived.Test.YtjneghnknfhboaaDoorP22
import Derived.Test.YtjneghnknfhboaaDoorP24
import Derived.Test.YtjneghnknfhboaaDoorP25
import Derived.Test.YtjneghnknfhboaaDoorP26
namespace Go.Proofs.YtjneghnknfhboaaDoor.P
open Go.RowKit Go.Proofs.YtjneghnknfhboaaDoorW.PrintWords Go.Proofs.YtjneghnknfhboaaDoorW.PrintLast Go.Proofs.YtjneghnknfhboaaDoorW.PrintMore
attribute [local go_sem] max2_int min2_int max_two min_two max_three min_three max_four min_four   -- for this text's walks alone
set_option linter.unusedVariables false
set_option linter.unusedSimpArgs false

/-! ### graftwoodlaw10_InternAll: function 3 -/
mutual
def graftwoodlaw10_InternAll.l0 : Nat → List (S34) → List Int → Int → Bool → Int → List (S34) → List (S34) → Option (Bool)
 | 0, _, _, _, _, _, _, _ => none
 | k + 1, x1, x5, x7, x8, x9, x277000, x291000 => if x9 < (x1.length : Int) then (if x8 = true then (if 0 ≤ x9 then ((graftwoodref05_May.f k ((rd_T34 x1 x9).f0) ((rd_T34 x1 x9).f1)).bind fun t293 => (graftwoodlaw10_InternAll.l0 k x1 x5 x7 t293 (wrap64 (x9 + 1)) x277000 x291000)) else (none)) else (graftwoodlaw10_InternAll.l0 k x1 x5 x7 false (wrap64 (x9 + 1)) x277000 x291000)) else (if x8 = true then (if (x5.length : Int) = (x1.length : Int) then (graftwoodlaw10_InternAll.l1 k x1 x5 x7 0 x291000 x277000) else (some false)) else (if (x5.length : Int) = 0 then ((graftwoodlaw10_same.f k x291000 x277000).bind fun t294 => (if t294 = true then (if x7 = 1 then ((graftwoodlaw10_awake.f k).bind fun t295 => (some t295)) else (some false)) else (some false))) else (some false)))
def graftwoodlaw10_InternAll.l1 : Nat → List (S34) → List Int → Int → Int → List (S34) → List (S34) → Option (Bool)
 | 0, _, _, _, _, _, _ => none
 | k + 1, x1, x5, x7, x11, x291000, x297000 => if x11 < (x1.length : Int) then (if 0 ≤ x11 then ((graftwoodref10_Id.f k x297000 ((rd_T34 x1 x11).f0) ((rd_T34 x1 x11).f1)).bind fun bt298 => (if x11 < (x5.length : Int) then (if (rd x5 x11) = bt298.1 then (graftwoodlaw10_InternAll.l1 k x1 x5 x7 (wrap64 (x11 + 1)) x291000 bt298.2) else (some false)) else (none))) else (none)) else ((graftwoodlaw10_same.f k x291000 x297000).bind fun t304 => (if t304 = true then (if x7 = 0 then ((graftwoodlaw10_awake.f k).bind fun t305 => (some t305)) else (some false)) else (some false)))
end
def graftwoodlaw10_InternAll.f (k : Nat) (l0_0 : List (S34)) (l1 : List (S34)) : Option (Bool) := (graftwoodlaw10_Few.f k l0_0).bind fun t277 => ((graftwoodlaw05_Few.f k l1).bind fun t280 => ((intern_All.f k t277 t280).bind fun bt283 => ((graftwoodref10_May.f k t277).bind fun t291 => (graftwoodlaw10_InternAll.l0 k t280 bt283.1 bt283.2.2 t291 0 t277 bt283.2.1))))
theorem graftwoodlaw10_InternAll.mono_l : ∀ k, (∀ y0 y1 y2 y3 y4 y5 y6, LeO (graftwoodlaw10_InternAll.l0 k y0 y1 y2 y3 y4 y5 y6) (graftwoodlaw10_InternAll.l0 (k + 1) y0 y1 y2 y3 y4 y5 y6)) ∧ (∀ y0 y1 y2 y3 y4 y5, LeO (graftwoodlaw10_InternAll.l1 k y0 y1 y2 y3 y4 y5) (graftwoodlaw10_InternAll.l1 (k + 1) y0 y1 y2 y3 y4 y5))
 | 0 => ⟨fun _ _ _ _ _ _ _ r h => by simp [graftwoodlaw10_InternAll.l0] at h, fun _ _ _ _ _ _ r h => by simp [graftwoodlaw10_InternAll.l1] at h⟩
 | k + 1 => by
  obtain ⟨ih0, ih1⟩ := graftwoodlaw10_InternAll.mono_l k
  refine ⟨?_, ?_⟩
  ·intro y0 y1 y2 y3 y4 y5 y6
   unfold graftwoodlaw10_InternAll.l0
   repeat' first
   | (with_reducible exact ih0 _ _ _ _ _ _ _)
   | (with_reducible exact ih1 _ _ _ _ _ _)
   | (with_reducible exact graftwoodlaw05_Few.mono _ _)
   | (with_reducible exact graftwoodlaw10_Few.mono _ _)
   | (with_reducible exact graftwoodlaw10_awake.mono _)
   | (with_reducible exact graftwoodlaw10_same.mono _ _ _)
   | (with_reducible exact graftwoodref05_May.mono _ _ _)
   | (with_reducible exact graftwoodref10_Id.mono _ _ _ _)
   | (with_reducible exact graftwoodref10_May.mono _ _)
   | (with_reducible exact intern_All.mono _ _ _)
   | (with_reducible exact LeO.refl _)
   | (with_reducible exact LeO.none _)
   | (with_reducible refine LeO.ite ?_ ?_)
   | (with_reducible refine LeO.bind ?_ (fun _ => ?_))
   | exact ih0 _ _ _ _ _ _ _
   | exact ih1 _ _ _ _ _ _
   | exact graftwoodlaw05_Few.mono _ _
   | exact graftwoodlaw10_Few.mono _ _
   | exact graftwoodlaw10_awake.mono _
   | exact graftwoodlaw10_same.mono _ _ _
   | exact graftwoodref05_May.mono _ _ _
   | exact graftwoodref10_Id.mono _ _ _ _
   | exact graftwoodref10_May.mono _ _
   | exact intern_All.mono _ _ _
   | exact LeO.none _
   | refine LeO.ite ?_ ?_
   | refine LeO.bind ?_ (fun _ => ?_)
  ·intro y0 y1 y2 y3 y4 y5
   unfold graftwoodlaw10_InternAll.l1
   repeat' first
   | (with_reducible exact ih0 _ _ _ _ _ _ _)
   | (with_reducible exact ih1 _ _ _ _ _ _)
   | (with_reducible exact graftwoodlaw05_Few.mono _ _)
   | (with_reducible exact graftwoodlaw10_Few.mono _ _)
   | (with_reducible exact graftwoodlaw10_awake.mono _)
   | (with_reducible exact graftwoodlaw10_same.mono _ _ _)
   | (with_reducible exact graftwoodref05_May.mono _ _ _)
   | (with_reducible exact graftwoodref10_Id.mono _ _ _ _)
   | (with_reducible exact graftwoodref10_May.mono _ _)
   | (with_reducible exact intern_All.mono _ _ _)
   | (with_reducible exact LeO.refl _)
   | (with_reducible exact LeO.none _)
   | (with_reducible refine LeO.ite ?_ ?_)
   | (with_reducible refine LeO.bind ?_ (fun _ => ?_))
   | exact ih0 _ _ _ _ _ _ _
   | exact ih1 _ _ _ _ _ _
   | exact graftwoodlaw05_Few.mono _ _
   | exact graftwoodlaw10_Few.mono _ _
   | exact graftwoodlaw10_awake.mono _
   | exact graftwoodlaw10_same.mono _ _ _
   | exact graftwoodref05_May.mono _ _ _
   | exact graftwoodref10_Id.mono _ _ _ _
   | exact graftwoodref10_May.mono _ _
   | exact intern_All.mono _ _ _
   | exact LeO.none _
   | refine LeO.ite ?_ ?_
   | refine LeO.bind ?_ (fun _ => ?_)
theorem graftwoodlaw10_InternAll.mono : ∀ a0 a1 k, LeO (graftwoodlaw10_InternAll.f k a0 a1) (graftwoodlaw10_InternAll.f (k + 1) a0 a1) := by
 intro a0 a1 k
 obtain ⟨ih0, ih1⟩ := graftwoodlaw10_InternAll.mono_l k
 unfold graftwoodlaw10_InternAll.f
 repeat' first
   | (with_reducible exact ih0 _ _ _ _ _ _ _)
   | (with_reducible exact ih1 _ _ _ _ _ _)
   | (with_reducible exact graftwoodlaw05_Few.mono _ _)
   | (with_reducible exact graftwoodlaw10_Few.mono _ _)
   | (with_reducible exact graftwoodlaw10_awake.mono _)
   | (with_reducible exact graftwoodlaw10_same.mono _ _ _)
   | (with_reducible exact graftwoodref05_May.mono _ _ _)
   | (with_reducible exact graftwoodref10_Id.mono _ _ _ _)
   | (with_reducible exact graftwoodref10_May.mono _ _)
   | (with_reducible exact intern_All.mono _ _ _)
   | (with_reducible exact LeO.refl _)
   | (with_reducible exact LeO.none _)
   | (with_reducible refine LeO.ite ?_ ?_)
   | (with_reducible refine LeO.bind ?_ (fun _ => ?_))
   | exact ih0 _ _ _ _ _ _ _
   | exact ih1 _ _ _ _ _ _
   | exact graftwoodlaw05_Few.mono _ _
   | exact graftwoodlaw10_Few.mono _ _
   | exact graftwoodlaw10_awake.mono _
   | exact graftwoodlaw10_same.mono _ _ _
   | exact graftwoodref05_May.mono _ _ _
   | exact graftwoodref10_Id.mono _ _ _ _
   | exact graftwoodref10_May.mono _ _
   | exact intern_All.mono _ _ _
   | exact LeO.none _
   | refine LeO.ite ?_ ?_
   | refine LeO.bind ?_ (fun _ => ?_)
def graftwoodlaw10_InternAll.T16 : Bool × List (List Nat × List Nat) := (true, [([], []), ([], []), ([], []), ([1, 2], [1, 2]), ([3], [3]), ([0, 4], [0, 4]), ([5], [5]), ([6], [6]), ([6], [6]), ([], []), ([7, 5, 0, 1, 2, 3, 4, 5, 6, 7, 9], [7]), ([9, 8, 10, 0, 1, 2, 3, 4, 5, 6, 7, 8, 9, 10], [8, 9])])
def graftwoodlaw10_InternAll.B16 : List Nat := [0, 0, 0, 6, 14, 31, 63, 127, 127, 0, 767, 2047]
theorem graftwoodlaw10_InternAll.tab16 : rtab .any (opsOf Tryd.f3 16) = graftwoodlaw10_InternAll.T16 := by kernel_rfl
theorem graftwoodlaw10_InternAll.bits16 : waitsOk graftwoodlaw10_InternAll.T16.2 graftwoodlaw10_InternAll.B16 = true := by kernel_rfl
set_option maxHeartbeats 8000000 in
set_option maxRecDepth 100000 in
theorem graftwoodlaw10_InternAll.calls (k : Nat) (A0_0 : Option Addr) (c0_0 : Nat) (l0_0 : List (S34)) (A1 : Option Addr) (c1 : Nat) (l1 : List (S34)) (r : Bool) (w : World) (hr0_0 : Kd.C k34 w A0_0 l0_0.length l0_0) (hc0_0 : l0_0.length ≤ c0_0) (hr1 : Kd.C k34 w A1 l1.length l1) (hc1 : l1.length ≤ c1) (h : graftwoodlaw10_InternAll.f k l0_0 l1 = some r) :
  Calls Tryd.prog 3 #[.agg #[.slice A0_0 l0_0.length c0_0], .slice A1 l1.length c1] w fun e w' => e = .returned (.bool r) ∧ Below w.heap.size w w' := by
 have hu24 := Tryd.underlying24
 have hu34 := Tryd.underlying34
 have HR0_0 := Aside0.mk hr0_0
 have HC0_0 := Aside0.mk hc0_0
 clear hr0_0 hc0_0
 have HR1 := Aside0.mk hr1
 have HC1 := Aside0.mk hc1
 clear hr1 hc1
 have HB := Aside0.mk (Below.refl w.heap.size w)
 have H : ((graftwoodlaw10_Few.f k l0_0).bind fun t277 => ((graftwoodlaw05_Few.f k l1).bind fun t280 => ((intern_All.f k t277 t280).bind fun bt283 => ((graftwoodref10_May.f k t277).bind fun t291 => (graftwoodlaw10_InternAll.l0 k t280 bt283.1 bt283.2.2 t291 0 t277 bt283.2.1))))) = some r := h
 clear h
 replace H := Option.bind_eq_some_iff.mp H
 obtain ⟨t277, A30, H⟩ := H
 replace H : ((graftwoodlaw05_Few.f k l1).bind fun t280 => ((intern_All.f k t277 t280).bind fun bt283 => ((graftwoodref10_May.f k t277).bind fun t291 => (graftwoodlaw10_InternAll.l0 k t280 bt283.1 bt283.2.2 t291 0 t277 bt283.2.1)))) = some r := H
 have A3 := Aside0.mk A30
 clear A30
 replace H := Option.bind_eq_some_iff.mp H
 obtain ⟨t280, A40, H⟩ := H
 replace H : ((intern_All.f k t277 t280).bind fun bt283 => ((graftwoodref10_May.f k t277).bind fun t291 => (graftwoodlaw10_InternAll.l0 k t280 bt283.1 bt283.2.2 t291 0 t277 bt283.2.1))) = some r := H
 have A4 := Aside0.mk A40
 clear A40
 replace H := Option.bind_eq_some_iff.mp H
 obtain ⟨⟨t283, t286, t289⟩, A50, H⟩ := H
 replace H : ((graftwoodref10_May.f k t277).bind fun t291 => (graftwoodlaw10_InternAll.l0 k t280 t283 t289 t291 0 t277 t286)) = some r := H
 have A5 := Aside0.mk A50
 clear A50
 replace H := Option.bind_eq_some_iff.mp H
 obtain ⟨t291, A60, H⟩ := H
 replace H : (graftwoodlaw10_InternAll.l0 k t280 t283 t289 t291 0 t277 t286) = some r := H
 have A6 := Aside0.mk A60
 clear A60
 have H' := Aside0.mk H
 clear H
 go_enter Tryd.func3, Tryd.ntmps3
 go_wp2_with (first | ((with_reducible refine gate_dst (N := 2) rfl ?_); refine box_event ?hg (N := 2) ?hd (cs := #[.slice A0_0 l0_0.length c0_0]) (t := 24) ?hr ?_; (case hd => rfl); (case hg => rfl); (case hr => first | (go_simp; done) | (go_simp; rfl)); intro gb276 hg w7 hbox hb; have n0_ := Aside0.mk (below_step (by repeat (first | (with_reducible first | exact HB.out | apply below_alloc | apply pw_below_drewN | apply below_drew1) | exact HB.out)) hb); have n1_ := Aside0.mk (hbox); have n2_ := Aside0.mk ((by rw [hg]; exact (below_size (by repeat (first | (with_reducible first | exact HB.out | apply below_alloc | apply pw_below_drewN | apply below_drew1) | exact HB.out))) : w.heap.size ≤ gb276)); have n3_ := Aside0.mk ((by rw [hg]; exact (below_size (by repeat (first | (with_reducible first | exact HB.out | apply below_alloc | apply pw_below_drewN | apply below_drew1) | exact HB.out))) : w.heap.size ≤ gb276)); clear HB; have HB := n0_; have BK276 := n1_; have GW276 := n2_; have GE276 := n3_; clear n0_ n1_ n2_ n3_; clear hb hbox hg; have hcz8_0 : w7.cell? ⟨gb276, 0, none⟩ = some (.slice A0_0 l0_0.length c0_0) := (blk_cell BK276.out 0).trans rfl; have hfz8_0 := blk_frozen BK276.out 0) | ((with_reducible refine gate_callee (f := 8) rfl ?_); refine goesL_ (some 15) rfl rfl Tryd.func8 (by kernel_rfl) rfl #[.agg #[.slice A0_0 l0_0.length c0_0]] rfl (by (try simp only [List.map_toArray, List.map_cons, List.map_nil]); first | done | rfl | (simp only [List.length_drop, List.length_take]; rfl)) ?_; (with_reducible refine (graftwoodlaw10_Few.calls k _ _ l0_0 t277 _ ?side1 ?side2 A3.out).mono ?_); (case side1 => repeat (first | exact (Kd.C_below HR0_0.out HB.out) | (with_reducible refine Kd.C_alloc ?_ _) | (with_reducible refine Kd.C_drewN ?_ _) | (with_reducible refine Kd.C_drew ?_))); (case side2 => exact HC0_0.out); rintro e w9 ⟨v278, rfl, ho0, hb⟩; refine ⟨_, rfl, ?_⟩; have n0_ := Aside0.mk (Kd.R_lower ho0 (below_size (by repeat (first | (with_reducible first | exact HB.out | apply below_alloc | apply pw_below_drewN | apply below_drew1 | refine below_set ?_ GE276.out) | exact HB.out)))); have n1_ := Aside0.mk (blk_below (g := gb276) (o := .cells #[.slice A0_0 l0_0.length c0_0] 24 (0, 0)) (by (with_reducible repeat (first | refine blk_drewN ?_ _ | refine blk_drew ?_ | refine blk_alloc ?_ _)); exact BK276.out) hb); have n2_ := Aside0.mk (below_step (by repeat (first | (with_reducible first | exact HB.out | apply below_alloc | apply pw_below_drewN | apply below_drew1 | refine below_set ?_ GE276.out) | exact HB.out)) hb); clear BK276; clear HB; have HO279 := n0_; have BK276 := n1_; have HB := n2_; clear n0_ n1_ n2_; (try clear hb); (try clear hb2); (try clear hk); (try clear hi); (try clear ho0)) | ((with_reducible refine gate_callee (f := 9) rfl ?_); refine goesL_ (some 17) rfl rfl Tryd.func9 (by kernel_rfl) rfl #[.slice A1 l1.length c1] rfl (by (try simp only [List.map_toArray, List.map_cons, List.map_nil]); first | done | rfl | (simp only [List.length_drop, List.length_take]; rfl)) ?_; (with_reducible refine (graftwoodlaw05_Few.calls k _ _ l1 t280 _ ?side1 ?side2 A4.out).mono ?_); (case side1 => repeat (first | exact (Kd.C_below HR1.out HB.out) | (with_reducible refine Kd.C_alloc ?_ _) | (with_reducible refine Kd.C_drewN ?_ _) | (with_reducible refine Kd.C_drew ?_))); (case side2 => exact HC1.out); rintro e w10 ⟨v281, rfl, ho0, hb⟩; refine ⟨_, rfl, ?_⟩; have n0_ := Aside0.mk (Kd.R_elder' (by (with_reducible repeat (first | apply Kd.R_alloc | apply Kd.R_drewN | apply Kd.R_drew)); exact HO279.out) (Kd.R_base ho0) hb); have n1_ := Aside0.mk (Kd.R_lower (Kd.R_new' ho0 (Kd.R_lt (by (with_reducible repeat (first | apply Kd.R_alloc | apply Kd.R_drewN | apply Kd.R_drew)); exact HO279.out))) (below_size (by repeat (first | (with_reducible first | exact HB.out | apply below_alloc | apply pw_below_drewN | apply below_drew1 | refine below_set ?_ GE276.out) | exact HB.out)))); have n2_ := Aside0.mk (blk_below (g := gb276) (o := .cells #[.slice A0_0 l0_0.length c0_0] 24 (0, 0)) (by (with_reducible repeat (first | refine blk_drewN ?_ _ | refine blk_drew ?_ | refine blk_alloc ?_ _)); exact BK276.out) hb); have n3_ := Aside0.mk (below_step (by repeat (first | (with_reducible first | exact HB.out | apply below_alloc | apply pw_below_drewN | apply below_drew1 | refine below_set ?_ GE276.out) | exact HB.out)) hb); clear HO279; clear BK276; clear HB; have HO279 := n0_; have HO282 := n1_; have BK276 := n2_; have HB := n3_; clear n0_ n1_ n2_ n3_; (try clear hb); (try clear hb2); (try clear hk); (try clear hi); (try clear ho0); obtain ⟨Ao11, co11, eo11⟩ := Kd.R_slice HO279.out; subst eo11; have hcz12_0 : w10.cell? ⟨gb276, 0, none⟩ = some (.slice A0_0 l0_0.length c0_0) := (blk_cell BK276.out 0).trans rfl; have hfz12_0 := blk_frozen BK276.out 0) | ((with_reducible refine gate_store (t := 24) (p := 2) rfl ?_); refine store_event (t := 24) (p := 2) (v := ?vo_w13) (w1 := (w10.setCell ⟨gb276, 0, none⟩ (.slice Ao11 t277.length co11))) ?hg ?ho ?hn ?hr ?_; (case ho => rfl); (case hg => rfl); (case hn => rfl); (case hr => first | (go_simp; done) | (go_simp; rfl)); intro w13 hw; have n0_ : Aside0 (Kd.R k34 34 w13 w.heap.size (fun k_ => some k_ ≠ (v281 : Value).ownBlock) (.slice Ao11 t277.length co11) t277) := ⟨(by rw [hw]; exact (by (with_reducible repeat (first | apply Kd.R_alloc | apply Kd.R_drewN | apply Kd.R_drew)); exact Kd.R_mono (Kd.R_far (p := ⟨gb276, 0, none⟩) (Kd.R_types HO279.out BK276.out (by decide)) (fun _ hk => hk.2) (.slice Ao11 t277.length co11)) (fun _ hk => hk.1.2)))⟩; have n1_ : Aside0 (Kd.R k34 34 w13 w.heap.size (fun k_ => some k_ ≠ (.slice Ao11 t277.length co11 : Value).ownBlock) v281 t280) := ⟨(by rw [hw]; exact (by (with_reducible repeat (first | apply Kd.R_alloc | apply Kd.R_drewN | apply Kd.R_drew)); exact Kd.R_mono (Kd.R_far (p := ⟨gb276, 0, none⟩) (Kd.R_types HO282.out BK276.out (by decide)) (fun _ hk => hk.2) (.slice Ao11 t277.length co11)) (fun _ hk => hk.1.2)))⟩; have n2_ : Aside0 (w13.heap[gb276]? = some (.cells #[.slice Ao11 t277.length co11] 24 (0, 0))) := ⟨(by rw [hw]; exact (by (with_reducible repeat (first | refine blk_drewN ?_ _ | refine blk_drew ?_ | refine blk_alloc ?_ _)); refine blk_put (cs := #[.slice A0_0 l0_0.length c0_0]) ?_ 0 _ rfl; (with_reducible repeat (first | refine blk_drewN ?_ _ | refine blk_drew ?_ | refine blk_alloc ?_ _)); exact BK276.out))⟩; have n3_ : Aside0 (Below w.heap.size w w13) := ⟨(by rw [hw]; exact (by repeat (first | (with_reducible first | exact HB.out | apply below_alloc | apply pw_below_drewN | apply below_drew1 | refine below_set ?_ GE276.out) | exact HB.out)))⟩; clear hw; clear HO279; clear HO282; clear BK276; clear HB; have HO279 := n0_; have HO282 := n1_; have BK276 := n2_; have HB := n3_; clear n0_ n1_ n2_ n3_; have hcz14_0 : w13.cell? ⟨gb276, 0, none⟩ = some (.slice Ao11 t277.length co11) := (blk_cell BK276.out 0).trans rfl; have hfz14_0 := blk_frozen BK276.out 0; obtain ⟨Ao15, co15, eo15⟩ := Kd.R_slice HO282.out; subst eo15) | ((with_reducible refine gate_callee (f := 10) rfl ?_); refine goesL_ (some 21) rfl rfl Tryd.func10 (by kernel_rfl) rfl #[.agg #[.slice Ao11 t277.length co11], .slice Ao15 t280.length co15] rfl (by (try simp only [List.map_toArray, List.map_cons, List.map_nil]); first | done | rfl | (simp only [List.length_drop, List.length_take]; rfl)) ?_; (with_reducible refine (intern_All.calls k (fun k_ => some k_ = (.slice Ao11 t277.length co11 : Value).ownBlock) _ _ t277 _ _ t280 t283 t286 t289 _ ?side1 ?side2 ?side3 A5.out).mono ?_); (case side1 => exact Kd.R_V (Kd.R_tight rfl (Kd.R_types (HO279.out) BK276.out (by decide)))); (case side2 => repeat (first | exact (Kd.R_reads' HO282.out).2.2 | (with_reducible refine Kd.C_alloc ?_ _) | (with_reducible refine Kd.C_drewN ?_ _) | (with_reducible refine Kd.C_drew ?_))); (case side3 => exact (Kd.R_reads' HO282.out).2.1); rintro e w16 ⟨v284, v287, rfl, ho0, ho1, hb⟩; refine ⟨_, rfl, ?_⟩; have n0_ := Aside0.mk (Kd.R_below (by (with_reducible repeat (first | apply Kd.R_alloc | apply Kd.R_drewN | apply Kd.R_drew)); exact HO279.out) hb); have n1_ := Aside0.mk (Kd.R_below (by (with_reducible repeat (first | apply Kd.R_alloc | apply Kd.R_drewN | apply Kd.R_drew)); exact HO282.out) hb); have n2_ := Aside0.mk (Kd.R_lower (Kd.R_mono (ok' := fun k_ => True) ho0 (fun _ hk_ => trivial)) (below_size (by repeat (first | (with_reducible first | exact HB.out | apply below_alloc | apply pw_below_drewN | apply below_drew1 | refine below_set ?_ GE276.out) | exact HB.out)))); have n3_ := Aside0.mk (Kd.V_lower (Kd.V_mono (ok' := fun k_ => some k_ ≠ (v284 : Value).ownBlock ∧ some k_ ≠ (.slice Ao15 t280.length co15 : Value).ownBlock ∧ k_ ≠ gb276) ho1 (fun k_ hk_ => ⟨hk_.2, Or.elim hk_.1 (fun hs_ => ((Kd.R_types (HO279.out) BK276.out (by decide)).1 k_ hs_.symm).1) (fun hn_ => (Kd.fresh' (Kd.R_lt (by (with_reducible repeat (first | apply Kd.R_alloc | apply Kd.R_drewN | apply Kd.R_drew)); exact HO282.out)) k_ hn_)), Or.elim hk_.1 (fun hs_ => ((Kd.R_types (HO279.out) BK276.out (by decide)).1 k_ hs_.symm).2) (fun hn_ => (Kd.freshB (g := gb276) (o := .cells #[.slice Ao11 t277.length co11] 24 (0, 0)) (by (with_reducible repeat (first | refine blk_drewN ?_ _ | refine blk_drew ?_ | refine blk_alloc ?_ _)); exact BK276.out) k_ hn_))⟩)) (below_size (by repeat (first | (with_reducible first | exact HB.out | apply below_alloc | apply pw_below_drewN | apply below_drew1 | refine below_set ?_ GE276.out) | exact HB.out)))); have n4_ := Aside0.mk (blk_below (g := gb276) (o := .cells #[.slice Ao11 t277.length co11] 24 (0, 0)) (by (with_reducible repeat (first | refine blk_drewN ?_ _ | refine blk_drew ?_ | refine blk_alloc ?_ _)); exact BK276.out) hb); have n5_ := Aside0.mk (below_step (by repeat (first | (with_reducible first | exact HB.out | apply below_alloc | apply pw_below_drewN | apply below_drew1 | refine below_set ?_ GE276.out) | exact HB.out)) hb); clear HO279; clear HO282; clear BK276; clear HB; have HO279 := n0_; have HO282 := n1_; have HO285 := n2_; have HO288 := n3_; have BK276 := n4_; have HB := n5_; clear n0_ n1_ n2_ n3_ n4_ n5_; (try clear hb); (try clear hb2); (try clear hk); (try clear hi); (try clear ho0); (try clear ho1)) | ((with_reducible refine gate_dst (N := 6) rfl ?_); refine box_event ?hg (N := 6) ?hd (cs := #[.slice none 0 0]) (t := 24) ?hr ?_; (case hd => rfl); (case hg => rfl); (case hr => first | (go_simp; done) | (go_simp; rfl)); intro gb290 hg w17 hbox hb; have n0_ := Aside0.mk (Kd.R_below (by (with_reducible repeat (first | apply Kd.R_alloc | apply Kd.R_drewN | apply Kd.R_drew)); exact HO279.out) hb); have n1_ := Aside0.mk (Kd.R_below (by (with_reducible repeat (first | apply Kd.R_alloc | apply Kd.R_drewN | apply Kd.R_drew)); exact HO282.out) hb); have n2_ := Aside0.mk (Kd.R_below (by (with_reducible repeat (first | apply Kd.R_alloc | apply Kd.R_drewN | apply Kd.R_drew)); exact HO285.out) hb); have n3_ := Aside0.mk (Kd.V_below (Kd.V_elderB (by (with_reducible repeat (first | apply Kd.V_alloc | apply Kd.V_drewN | apply Kd.V_drew)); exact HO288.out) gb290 (Nat.le_of_eq hg.symm)) hb); have n4_ := Aside0.mk (blk_below (g := gb276) (o := .cells #[.slice Ao11 t277.length co11] 24 (0, 0)) (by (with_reducible repeat (first | refine blk_drewN ?_ _ | refine blk_drew ?_ | refine blk_alloc ?_ _)); exact BK276.out) hb); have n5_ := Aside0.mk (below_step (by repeat (first | (with_reducible first | exact HB.out | apply below_alloc | apply pw_below_drewN | apply below_drew1 | refine below_set ?_ GE276.out) | exact HB.out)) hb); have n6_ := Aside0.mk (hbox); have n7_ := Aside0.mk ((by rw [hg]; exact (below_size (by repeat (first | (with_reducible first | exact HB.out | apply below_alloc | apply pw_below_drewN | apply below_drew1 | refine below_set ?_ GE276.out) | exact HB.out))) : w.heap.size ≤ gb290)); have n8_ := Aside0.mk ((by rw [hg]; exact (below_size (by repeat (first | (with_reducible first | exact HB.out | apply below_alloc | apply pw_below_drewN | apply below_drew1 | refine below_set ?_ GE276.out) | exact HB.out))) : w.heap.size ≤ gb290)); have n9_ := Aside0.mk ((by rw [hg]; exact Nat.ne_of_lt (blk_lt (g := gb276) (o := .cells #[.slice Ao11 t277.length co11] 24 (0, 0)) (by (with_reducible repeat (first | refine blk_drewN ?_ _ | refine blk_drew ?_ | refine blk_alloc ?_ _)); exact BK276.out)) : gb276 ≠ gb290)); have n10_ := Aside0.mk ((by rw [hg]; exact Nat.ne_of_gt (blk_lt (g := gb276) (o := .cells #[.slice Ao11 t277.length co11] 24 (0, 0)) (by (with_reducible repeat (first | refine blk_drewN ?_ _ | refine blk_drew ?_ | refine blk_alloc ?_ _)); exact BK276.out)) : gb290 ≠ gb276)); clear HO279; clear HO282; clear HO285; clear HO288; clear BK276; clear HB; have HO279 := n0_; have HO282 := n1_; have HO285 := n2_; have HO288 := n3_; have BK276 := n4_; have HB := n5_; have BK290 := n6_; have GW290 := n7_; have GE290 := n8_; have NB276_290 := n9_; have NB290_276 := n10_; clear n0_ n1_ n2_ n3_ n4_ n5_ n6_ n7_ n8_ n9_ n10_; clear hb hbox hg; obtain ⟨Ao18, co18, eo18⟩ := Kd.V_slice HO288.out; subst eo18; have hnb19 := NB290_276.out; have hnc19 := NB276_290.out; have hcz20_0 : w17.cell? ⟨gb290, 0, none⟩ = some (.slice none 0 0) := (blk_cell BK290.out 0).trans rfl; have hfz20_0 := blk_frozen BK290.out 0; have hcz21_0 : w17.cell? ⟨gb276, 0, none⟩ = some (.slice Ao11 t277.length co11) := (blk_cell BK276.out 0).trans rfl; have hfz21_0 := blk_frozen BK276.out 0) | ((with_reducible refine gate_callee (f := 11) rfl ?_); refine goesL_ (some 26) rfl rfl Tryd.func11 (by kernel_rfl) rfl #[.agg #[.slice Ao11 t277.length co11]] rfl (by (try simp only [List.map_toArray, List.map_cons, List.map_nil]); first | done | rfl | (simp only [List.length_drop, List.length_take]; rfl)) ?_; (with_reducible refine (graftwoodref10_May.calls k _ _ t277 t291 _ ?side1 ?side2 A6.out).mono ?_); (case side1 => refine (Kd.R_reads' (e := 34) (base := w.heap.size) (ok := fun k_ => some k_ ≠ (.slice Ao15 t280.length co15 : Value).ownBlock) (n := t277.length) (c := co11) ?_).2.2; exact (by (with_reducible repeat (first | apply Kd.R_alloc | apply Kd.R_drewN | apply Kd.R_drew)); exact (Kd.R_mono (Kd.R_far (p := ⟨gb290, 0, none⟩) (Kd.R_types HO279.out BK290.out (by decide)) (fun _ hk => hk.2) (.slice Ao18 t286.length co18)) (fun _ h_ => h_.1)))); (case side2 => exact (Kd.R_reads' HO279.out).2.1); rintro e w22 ⟨rfl, hb⟩; refine ⟨_, rfl, ?_⟩; have n0_ := Aside0.mk (Kd.R_below (by (with_reducible repeat (first | apply Kd.R_alloc | apply Kd.R_drewN | apply Kd.R_drew)); exact (Kd.R_mono (Kd.R_far (p := ⟨gb290, 0, none⟩) (Kd.R_types HO279.out BK290.out (by decide)) (fun _ hk => hk.2) (.slice Ao18 t286.length co18)) (fun _ h_ => h_.1))) hb); have n1_ := Aside0.mk (Kd.R_below (by (with_reducible repeat (first | apply Kd.R_alloc | apply Kd.R_drewN | apply Kd.R_drew)); exact (Kd.R_mono (Kd.R_far (p := ⟨gb290, 0, none⟩) (Kd.R_types HO282.out BK290.out (by decide)) (fun _ hk => hk.2) (.slice Ao18 t286.length co18)) (fun _ h_ => h_.1))) hb); have n2_ := Aside0.mk (Kd.R_below (by (with_reducible repeat (first | apply Kd.R_alloc | apply Kd.R_drewN | apply Kd.R_drew)); exact (Kd.R_mono (Kd.R_far (p := ⟨gb290, 0, none⟩) (Kd.R_types HO285.out BK290.out (by decide)) (fun _ hk => hk.2) (.slice Ao18 t286.length co18)) (fun _ h_ => h_.1))) hb); have n3_ := Aside0.mk (Kd.V_below (by (with_reducible repeat (first | apply Kd.V_alloc | apply Kd.V_drewN | apply Kd.V_drew)); exact (Kd.V_mono (Kd.V_far (p := ⟨gb290, 0, none⟩) (Kd.V_mono HO288.out (fun k_ hk => (⟨hk, hk.2⟩ : _ ∧ k_ ≠ gb290))) (fun _ hk => hk.2) (.slice Ao18 t286.length co18)) (fun _ h_ => h_.1))) hb); have n4_ := Aside0.mk (blk_below (g := gb276) (o := .cells #[.slice Ao11 t277.length co11] 24 (0, 0)) (by (with_reducible repeat (first | refine blk_drewN ?_ _ | refine blk_drew ?_ | refine blk_alloc ?_ _)); refine blk_far ?_ NB276_290.out _; (with_reducible repeat (first | refine blk_drewN ?_ _ | refine blk_drew ?_ | refine blk_alloc ?_ _)); exact BK276.out) hb); have n5_ := Aside0.mk (blk_below (g := gb290) (o := .cells #[.slice Ao18 t286.length co18] 24 (0, 0)) (by (with_reducible repeat (first | refine blk_drewN ?_ _ | refine blk_drew ?_ | refine blk_alloc ?_ _)); refine blk_put (cs := #[.slice none 0 0]) ?_ 0 _ rfl; (with_reducible repeat (first | refine blk_drewN ?_ _ | refine blk_drew ?_ | refine blk_alloc ?_ _)); exact BK290.out) hb); have n6_ := Aside0.mk (below_step (by repeat (first | (with_reducible first | exact HB.out | apply below_alloc | apply pw_below_drewN | apply below_drew1 | refine below_set ?_ GE276.out | refine below_set ?_ GE290.out) | exact HB.out)) hb); clear HO279; clear HO282; clear HO285; clear HO288; clear BK276; clear BK290; clear HB; have HO279 := n0_; have HO282 := n1_; have HO285 := n2_; have HO288 := n3_; have BK276 := n4_; have BK290 := n5_; have HB := n6_; clear n0_ n1_ n2_ n3_ n4_ n5_ n6_; (try clear hb); (try clear hb2); (try clear hk); (try clear hi)))
 go_loopg [8, 9] k (fun kq v8 v9 w' => ∃ (x8_1 : Bool) (x9_1 : Int), v8 = .bool x8_1 ∧ v9 = .int .i64 x9_1 ∧ Aside0 (graftwoodlaw10_InternAll.l0 kq t280 t283 t289 x8_1 x9_1 t277 t286 = some r) ∧ Aside0 (kq ≤ k) ∧ Aside0 (Kd.R k34 34 w' w.heap.size (fun k_ => some k_ ≠ ((.slice Ao11 t277.length co11) : Value).ownBlock) (.slice Ao15 t280.length co15) t280) ∧ Aside0 (Kd.R (Kd.int .i64) 3 w' w.heap.size (fun _ => True) v284 t283) ∧ Aside0 (Kd.R k34 34 w' w.heap.size (fun k_ => some k_ ≠ ((.slice Ao15 t280.length co15) : Value).ownBlock) (.slice Ao11 t277.length co11) t277) ∧ Aside0 (Kd.V k34 34 w' w.heap.size (fun k_ => some k_ ≠ ((.slice Ao15 t280.length co15) : Value).ownBlock ∧ some k_ ≠ (v284 : Value).ownBlock ∧ k_ ≠ gb276 ∧ k_ ≠ gb290) (.slice Ao18 t286.length co18) t286) ∧ Aside0 (w'.heap[gb276]? = some (.cells #[(.slice Ao11 t277.length co11)] 24 (0, 0))) ∧ Aside0 (w'.heap[gb290]? = some (.cells #[(.slice Ao18 t286.length co18)] 24 (0, 0))) ∧ Aside0 (Below w.heap.size w w'))
 case atStart => exact ⟨(t291), (0), (by first | rfl | (simp; done) | (simp [*]; done)), (by first | rfl | (simp; done) | (simp [*]; done)), H', ⟨Nat.le_refl _⟩, ⟨by (with_reducible repeat (first | apply Kd.R_alloc | apply Kd.R_drewN | apply Kd.R_drew)); exact HO282.out⟩, ⟨by (with_reducible repeat (first | apply Kd.R_alloc | apply Kd.R_drewN | apply Kd.R_drew)); exact HO285.out⟩, ⟨by (with_reducible repeat (first | apply Kd.R_alloc | apply Kd.R_drewN | apply Kd.R_drew)); exact HO279.out⟩, ⟨by (with_reducible repeat (first | apply Kd.V_alloc | apply Kd.V_drewN | apply Kd.V_drew)); exact Kd.V_mono HO288.out (fun _ hk => ⟨hk.1.2.1, ⟨hk.1.1, ⟨hk.1.2.2, hk.2⟩⟩⟩)⟩, ⟨by (with_reducible repeat (first | refine blk_drewN ?_ _ | refine blk_drew ?_ | refine blk_alloc ?_ _)); exact BK276.out⟩, ⟨by (with_reducible repeat (first | refine blk_drewN ?_ _ | refine blk_drew ?_ | refine blk_alloc ?_ _)); exact BK290.out⟩, ⟨by repeat (first | (with_reducible first | exact HB.out | apply below_alloc | apply pw_below_drewN | apply below_drew1 | refine below_set ?_ GE276.out | refine below_set ?_ GE290.out) | exact HB.out)⟩⟩
 case round =>
  clear H'
  try clear c1
  try clear p2
  try clear c3
  try clear c8
  try clear c9
  try clear c10
  try clear c11
  try clear c19
  try clear hcz12_0
  try clear hcz14_0
  try clear hcz20_0
  try clear hcz21_0
  try clear hcz8_0
  try clear hfz12_0
  try clear hfz14_0
  try clear hfz20_0
  try clear hfz21_0
  try clear hfz8_0
  obtain ⟨x8_1, x9_1, rfl, rfl, HA, HK1, HO_1, HO_5, HO_277000, HO_291000, BK276, BK290, HB⟩ := hrel
  cases gk with
  | zero => exact absurd HA.out (by simp [graftwoodlaw10_InternAll.l0])
  | succ k1 =>
   have H := HA.out
   clear HA
   simp only [graftwoodlaw10_InternAll.l0] at H
   by_cases c23 : x9_1 < (t280.length : Int)
   ·rw [if_pos c23] at H
    have c23b0 : decide (x9_1 < (t280.length : Int)) = true := decide_eq_true c23
    clear c23
    by_cases c24 : x8_1 = true
    ·subst c24
     have H1 : (if 0 ≤ x9_1 then ((graftwoodref05_May.f k1 ((rd_T34 t280 x9_1).f0) ((rd_T34 t280 x9_1).f1)).bind fun t293 => (graftwoodlaw10_InternAll.l0 k1 t280 t283 t289 t293 (wrap64 (x9_1 + 1)) t277 t286)) else (none)) = some r := by rw [if_pos rfl] at H; exact H
     clear H
     have H := H1
     clear H1
     by_cases c25 : 0 ≤ x9_1
     ·rw [if_pos c25] at H
      have c25b0 : decide (0 ≤ x9_1) = true := decide_eq_true c25
      clear c25
      replace H := Option.bind_eq_some_iff.mp H
      obtain ⟨t293, A260, H⟩ := H
      replace H : (graftwoodlaw10_InternAll.l0 k1 t280 t283 t289 t293 (wrap64 (x9_1 + 1)) t277 t286) = some r := H
      have A26 := Aside0.mk A260
      clear A260
      have H' := Aside0.mk H
      clear H
      have p292 : 0 ≤ (x9_1 : Int) := of_decide_eq_true (by first | (with_reducible assumption) | assumption)
      have q292 : x9_1 < (t280.length : Int) := of_decide_eq_true (by first | (with_reducible assumption) | assumption)
      obtain ⟨ad292, e292, hx292_0, hx292_1⟩ := at_T34 (Kd.R_reads' HO_1.out).2.2 x9_1 p292 q292
      cases e292
      replace p292 := eq_true p292
      replace q292 := eq_true q292
      go_wp2_with (first | (go_at_call 12; (with_reducible refine (graftwoodref05_May.calls k1 ((rd_T34 t280 x9_1).f0) ((rd_T34 t280 x9_1).f1) t293 _ A26.out).mono ?_); rintro e w27 ⟨rfl, hb⟩; have n0_ := Aside0.mk (Kd.R_below (by (with_reducible repeat (first | apply Kd.R_alloc | apply Kd.R_drewN | apply Kd.R_drew)); exact HO_1.out) hb); have n1_ := Aside0.mk (Kd.R_below (by (with_reducible repeat (first | apply Kd.R_alloc | apply Kd.R_drewN | apply Kd.R_drew)); exact HO_5.out) hb); have n2_ := Aside0.mk (Kd.R_below (by (with_reducible repeat (first | apply Kd.R_alloc | apply Kd.R_drewN | apply Kd.R_drew)); exact HO_277000.out) hb); have n3_ := Aside0.mk (Kd.V_below (by (with_reducible repeat (first | apply Kd.V_alloc | apply Kd.V_drewN | apply Kd.V_drew)); exact HO_291000.out) hb); have n4_ := Aside0.mk (blk_below (g := gb276) (o := .cells #[.slice Ao11 t277.length co11] 24 (0, 0)) (by (with_reducible repeat (first | refine blk_drewN ?_ _ | refine blk_drew ?_ | refine blk_alloc ?_ _)); exact BK276.out) hb); have n5_ := Aside0.mk (blk_below (g := gb290) (o := .cells #[.slice Ao18 t286.length co18] 24 (0, 0)) (by (with_reducible repeat (first | refine blk_drewN ?_ _ | refine blk_drew ?_ | refine blk_alloc ?_ _)); exact BK290.out) hb); have n6_ := Aside0.mk (below_step (by repeat (first | (with_reducible first | exact HB.out | apply below_alloc | apply pw_below_drewN | apply below_drew1 | refine below_set ?_ GE276.out | refine below_set ?_ GE290.out) | exact HB.out)) hb); clear HO_1; clear HO_5; clear HO_277000; clear HO_291000; clear BK276; clear BK290; clear HB; have HO_1 := n0_; have HO_5 := n1_; have HO_277000 := n2_; have HO_291000 := n3_; have BK276 := n4_; have BK290 := n5_; have HB := n6_; clear n0_ n1_ n2_ n3_ n4_ n5_ n6_; (try clear hb); (try clear hb2); (try clear hk); (try clear hi)))
      go_roundg k1
      case measure => have := HK1.out; omega
      case rel => exact ⟨(t293), (wrap64 (x9_1 + 1)), (by first | rfl | (simp; done) | (simp [*]; done)), (by first | rfl | (simp; done) | (simp [*]; done)), H', ⟨by have := HK1.out; omega⟩, ⟨by (with_reducible repeat (first | apply Kd.R_alloc | apply Kd.R_drewN | apply Kd.R_drew)); exact HO_1.out⟩, ⟨by (with_reducible repeat (first | apply Kd.R_alloc | apply Kd.R_drewN | apply Kd.R_drew)); exact HO_5.out⟩, ⟨by (with_reducible repeat (first | apply Kd.R_alloc | apply Kd.R_drewN | apply Kd.R_drew)); exact HO_277000.out⟩, ⟨by (with_reducible repeat (first | apply Kd.V_alloc | apply Kd.V_drewN | apply Kd.V_drew)); exact HO_291000.out⟩, ⟨by (with_reducible repeat (first | refine blk_drewN ?_ _ | refine blk_drew ?_ | refine blk_alloc ?_ _)); exact BK276.out⟩, ⟨by (with_reducible repeat (first | refine blk_drewN ?_ _ | refine blk_drew ?_ | refine blk_alloc ?_ _)); exact BK290.out⟩, ⟨by repeat (first | (with_reducible first | exact HB.out | apply below_alloc | apply pw_below_drewN | apply below_drew1 | refine below_set ?_ GE276.out | refine below_set ?_ GE290.out) | exact HB.out)⟩⟩
     ·rw [if_neg c25] at H
      exact absurd H (by simp)
    ·replace c24 := Bool.eq_false_iff.mpr c24
     subst c24
     have H1 : (graftwoodlaw10_InternAll.l0 k1 t280 t283 t289 false (wrap64 (x9_1 + 1)) t277 t286) = some r := by rw [if_neg (show ¬ (false = true) by decide)] at H; exact H
     clear H
     have H := H1
     clear H1
     have H' := Aside0.mk H
     clear H
     go_wp2
     go_roundg k1
     case measure => have := HK1.out; omega
     case rel => exact ⟨(false), (wrap64 (x9_1 + 1)), (by first | rfl | (simp; done) | (simp [*]; done)), (by first | rfl | (simp; done) | (simp [*]; done)), H', ⟨by have := HK1.out; omega⟩, ⟨by (with_reducible repeat (first | apply Kd.R_alloc | apply Kd.R_drewN | apply Kd.R_drew)); exact HO_1.out⟩, ⟨by (with_reducible repeat (first | apply Kd.R_alloc | apply Kd.R_drewN | apply Kd.R_drew)); exact HO_5.out⟩, ⟨by (with_reducible repeat (first | apply Kd.R_alloc | apply Kd.R_drewN | apply Kd.R_drew)); exact HO_277000.out⟩, ⟨by (with_reducible repeat (first | apply Kd.V_alloc | apply Kd.V_drewN | apply Kd.V_drew)); exact HO_291000.out⟩, ⟨by (with_reducible repeat (first | refine blk_drewN ?_ _ | refine blk_drew ?_ | refine blk_alloc ?_ _)); exact BK276.out⟩, ⟨by (with_reducible repeat (first | refine blk_drewN ?_ _ | refine blk_drew ?_ | refine blk_alloc ?_ _)); exact BK290.out⟩, ⟨by repeat (first | (with_reducible first | exact HB.out | apply below_alloc | apply pw_below_drewN | apply below_drew1 | refine below_set ?_ GE276.out | refine below_set ?_ GE290.out) | exact HB.out)⟩⟩
   ·rw [if_neg c23] at H
    have c23b0 : decide (x9_1 < (t280.length : Int)) = false := decide_eq_false c23
    clear c23
    by_cases c28 : x8_1 = true
    ·subst c28
     have H1 : (if (t283.length : Int) = (t280.length : Int) then (graftwoodlaw10_InternAll.l1 k1 t280 t283 t289 0 t286 t277) else (some false)) = some r := by rw [if_pos rfl] at H; exact H
     clear H
     have H := H1
     clear H1
     by_cases c29 : (t283.length : Int) = (t280.length : Int)
     ·rw [if_pos c29] at H
      have c29b0 : ((t283.length : Int) == (t280.length : Int)) = true := beq_iff_eq.mpr c29
      have c29b1 : ((t283.length : Int) != (t280.length : Int)) = false := bne_eq_false_iff_eq.mpr c29
      have c29b2 : (t283.length == t280.length) = true := by first | simpa using c29 | (simp at c29 ⊢; omega)
      clear c29
      have H' := Aside0.mk H
      clear H
      have hnb30 := NB276_290.out
      have hnc30 := NB290_276.out
      have hcz31_0 : wr.cell? ⟨gb276, 0, none⟩ = some (.slice Ao11 t277.length co11) := (blk_cell BK276.out 0).trans rfl
      have hfz31_0 := blk_frozen BK276.out 0
      go_wp2_with (first | ((with_reducible refine gate_dst (N := 10) rfl ?_); refine box_event ?hg (N := 10) ?hd (cs := #[.slice none 0 0]) (t := 24) ?hr ?_; (case hd => rfl); (case hg => rfl); (case hr => first | (go_simp; done) | (go_simp; rfl)); intro gb296 hg w32 hbox hb; have n0_ := Aside0.mk (Kd.R_below (by (with_reducible repeat (first | apply Kd.R_alloc | apply Kd.R_drewN | apply Kd.R_drew)); exact HO_1.out) hb); have n1_ := Aside0.mk (Kd.R_below (by (with_reducible repeat (first | apply Kd.R_alloc | apply Kd.R_drewN | apply Kd.R_drew)); exact HO_5.out) hb); have n2_ := Aside0.mk (Kd.R_below (by (with_reducible repeat (first | apply Kd.R_alloc | apply Kd.R_drewN | apply Kd.R_drew)); exact HO_277000.out) hb); have n3_ := Aside0.mk (Kd.V_below (Kd.V_elderB (by (with_reducible repeat (first | apply Kd.V_alloc | apply Kd.V_drewN | apply Kd.V_drew)); exact HO_291000.out) gb296 (Nat.le_of_eq hg.symm)) hb); have n4_ := Aside0.mk (blk_below (g := gb276) (o := .cells #[.slice Ao11 t277.length co11] 24 (0, 0)) (by (with_reducible repeat (first | refine blk_drewN ?_ _ | refine blk_drew ?_ | refine blk_alloc ?_ _)); exact BK276.out) hb); have n5_ := Aside0.mk (blk_below (g := gb290) (o := .cells #[.slice Ao18 t286.length co18] 24 (0, 0)) (by (with_reducible repeat (first | refine blk_drewN ?_ _ | refine blk_drew ?_ | refine blk_alloc ?_ _)); exact BK290.out) hb); have n6_ := Aside0.mk (below_step (by repeat (first | (with_reducible first | exact HB.out | apply below_alloc | apply pw_below_drewN | apply below_drew1 | refine below_set ?_ GE276.out | refine below_set ?_ GE290.out) | exact HB.out)) hb); have n7_ := Aside0.mk (hbox); have n8_ := Aside0.mk ((by rw [hg]; exact (below_size (by repeat (first | (with_reducible first | exact HB.out | apply below_alloc | apply pw_below_drewN | apply below_drew1 | refine below_set ?_ GE276.out | refine below_set ?_ GE290.out) | exact HB.out))) : w.heap.size ≤ gb296)); have n9_ := Aside0.mk ((by rw [hg]; exact (below_size (by repeat (first | (with_reducible first | exact HB.out | apply below_alloc | apply pw_below_drewN | apply below_drew1 | refine below_set ?_ GE276.out | refine below_set ?_ GE290.out) | exact HB.out))) : w.heap.size ≤ gb296)); have n10_ := Aside0.mk ((by rw [hg]; exact Nat.ne_of_lt (blk_lt (g := gb276) (o := .cells #[.slice Ao11 t277.length co11] 24 (0, 0)) (by (with_reducible repeat (first | refine blk_drewN ?_ _ | refine blk_drew ?_ | refine blk_alloc ?_ _)); exact BK276.out)) : gb276 ≠ gb296)); have n11_ := Aside0.mk ((by rw [hg]; exact Nat.ne_of_gt (blk_lt (g := gb276) (o := .cells #[.slice Ao11 t277.length co11] 24 (0, 0)) (by (with_reducible repeat (first | refine blk_drewN ?_ _ | refine blk_drew ?_ | refine blk_alloc ?_ _)); exact BK276.out)) : gb296 ≠ gb276)); have n12_ := Aside0.mk ((by rw [hg]; exact Nat.ne_of_lt (blk_lt (g := gb290) (o := .cells #[.slice Ao18 t286.length co18] 24 (0, 0)) (by (with_reducible repeat (first | refine blk_drewN ?_ _ | refine blk_drew ?_ | refine blk_alloc ?_ _)); exact BK290.out)) : gb290 ≠ gb296)); have n13_ := Aside0.mk ((by rw [hg]; exact Nat.ne_of_gt (blk_lt (g := gb290) (o := .cells #[.slice Ao18 t286.length co18] 24 (0, 0)) (by (with_reducible repeat (first | refine blk_drewN ?_ _ | refine blk_drew ?_ | refine blk_alloc ?_ _)); exact BK290.out)) : gb296 ≠ gb290)); clear HO_1; clear HO_5; clear HO_277000; clear HO_291000; clear BK276; clear BK290; clear HB; have HO_1 := n0_; have HO_5 := n1_; have HO_277000 := n2_; have HO_291000 := n3_; have BK276 := n4_; have BK290 := n5_; have HB := n6_; have BK296 := n7_; have GW296 := n8_; have GE296 := n9_; have NB276_296 := n10_; have NB296_276 := n11_; have NB290_296 := n12_; have NB296_290 := n13_; clear n0_ n1_ n2_ n3_ n4_ n5_ n6_ n7_ n8_ n9_ n10_ n11_ n12_ n13_; clear hb hbox hg; have hnb33 := NB296_276.out; have hnc33 := NB276_296.out; have hnb34 := NB296_290.out; have hnc34 := NB290_296.out; have hcz35_0 : w32.cell? ⟨gb296, 0, none⟩ = some (.slice none 0 0) := (blk_cell BK296.out 0).trans rfl; have hfz35_0 := blk_frozen BK296.out 0; obtain ⟨Ao36, co36, eo36⟩ := Kd.R_slice HO_5.out; subst eo36))
      go_loopg [11] k1 (fun kq v11 w' => ∃ (x11_2 : Int) (x297000_2 : List (S34)) (u297000 : Value), v11 = .int .i64 x11_2 ∧ Aside0 (graftwoodlaw10_InternAll.l1 kq t280 t283 t289 x11_2 t286 x297000_2 = some r) ∧ Aside0 (kq ≤ k1) ∧ Aside0 (Kd.R k34 34 w' w.heap.size (fun k_ => some k_ ≠ ((.slice Ao11 t277.length co11) : Value).ownBlock) (.slice Ao15 t280.length co15) t280) ∧ Aside0 (Kd.R (Kd.int .i64) 3 w' w.heap.size (fun _ => True) (.slice Ao36 t283.length co36) t283) ∧ Aside0 (Kd.R k34 34 w' w.heap.size (fun k_ => some k_ ≠ ((.slice Ao15 t280.length co15) : Value).ownBlock) (.slice Ao11 t277.length co11) t277) ∧ Aside0 (Kd.V k34 34 w' w.heap.size (fun k_ => some k_ ≠ ((.slice Ao15 t280.length co15) : Value).ownBlock ∧ some k_ ≠ ((.slice Ao36 t283.length co36) : Value).ownBlock ∧ k_ ≠ gb276 ∧ k_ ≠ gb290 ∧ k_ ≠ gb296) (.slice Ao18 t286.length co18) t286) ∧ Aside0 (Kd.V k34 34 w' w.heap.size (fun k_ => some k_ ≠ ((.slice Ao15 t280.length co15) : Value).ownBlock ∧ some k_ ≠ ((.slice Ao36 t283.length co36) : Value).ownBlock ∧ k_ ≠ gb276 ∧ k_ ≠ gb290 ∧ k_ ≠ gb296) u297000 x297000_2) ∧ Aside0 (w'.heap[gb276]? = some (.cells #[(.slice Ao11 t277.length co11)] 24 (0, 0))) ∧ Aside0 (w'.heap[gb290]? = some (.cells #[(.slice Ao18 t286.length co18)] 24 (0, 0))) ∧ Aside0 (w'.heap[gb296]? = some (.cells #[u297000] 24 (0, 0))) ∧ Aside0 (Below w.heap.size w w'))
      case atStart => exact ⟨(0), (t277), (.slice Ao11 t277.length co11), (by first | rfl | (simp; done) | (simp [*]; done)), H', ⟨Nat.le_refl _⟩, ⟨by (with_reducible repeat (first | apply Kd.R_alloc | apply Kd.R_drewN | apply Kd.R_drew)); exact Kd.R_mono (Kd.R_far (p := ⟨gb296, 0, none⟩) (Kd.R_types HO_1.out BK296.out (by decide)) (fun _ hk => hk.2) (.slice Ao11 t277.length co11)) (fun _ hk => hk.1)⟩, ⟨by (with_reducible repeat (first | apply Kd.R_alloc | apply Kd.R_drewN | apply Kd.R_drew)); exact Kd.R_mono (Kd.R_far (p := ⟨gb296, 0, none⟩) (Kd.R_types HO_5.out BK296.out (by decide)) (fun _ hk => hk.2) (.slice Ao11 t277.length co11)) (fun _ hk => trivial)⟩, ⟨by (with_reducible repeat (first | apply Kd.R_alloc | apply Kd.R_drewN | apply Kd.R_drew)); exact Kd.R_mono (Kd.R_far (p := ⟨gb296, 0, none⟩) (Kd.R_types HO_277000.out BK296.out (by decide)) (fun _ hk => hk.2) (.slice Ao11 t277.length co11)) (fun _ hk => hk.1)⟩, ⟨by (with_reducible repeat (first | apply Kd.V_alloc | apply Kd.V_drewN | apply Kd.V_drew)); exact Kd.V_mono (Kd.V_far (p := ⟨gb296, 0, none⟩) (Kd.V_mono HO_291000.out (fun k_ hk => (⟨hk, hk.2⟩ : _ ∧ k_ ≠ gb296))) (fun _ hk => hk.2) (.slice Ao11 t277.length co11)) (fun _ hk => ⟨hk.1.1.1, ⟨hk.1.1.2.1, ⟨hk.1.1.2.2.1, ⟨hk.1.1.2.2.2, hk.1.2⟩⟩⟩⟩)⟩, ⟨Kd.R_V (by (with_reducible repeat (first | apply Kd.R_alloc | apply Kd.R_drewN | apply Kd.R_drew)); exact Kd.R_mono (Kd.R_far (p := ⟨gb296, 0, none⟩) (Kd.R_types (Kd.R_types (Kd.R_types (Kd.R_types (Kd.R_apart' HO_277000.out (Kd.R_typed HO_5.out) (by decide)) BK276.out (by decide)) BK290.out (by decide)) BK296.out (by decide)) BK296.out (by decide)) (fun _ hk => hk.2) (.slice Ao11 t277.length co11)) (fun _ hk => ⟨hk.1.1.1.1.1, ⟨hk.1.1.1.1.2, ⟨hk.1.1.1.2, ⟨hk.1.1.2, hk.1.2⟩⟩⟩⟩))⟩, ⟨by (with_reducible repeat (first | refine blk_drewN ?_ _ | refine blk_drew ?_ | refine blk_alloc ?_ _)); refine blk_far ?_ NB276_296.out _; (with_reducible repeat (first | refine blk_drewN ?_ _ | refine blk_drew ?_ | refine blk_alloc ?_ _)); exact BK276.out⟩, ⟨by (with_reducible repeat (first | refine blk_drewN ?_ _ | refine blk_drew ?_ | refine blk_alloc ?_ _)); refine blk_far ?_ NB290_296.out _; (with_reducible repeat (first | refine blk_drewN ?_ _ | refine blk_drew ?_ | refine blk_alloc ?_ _)); exact BK290.out⟩, ⟨by (with_reducible repeat (first | refine blk_drewN ?_ _ | refine blk_drew ?_ | refine blk_alloc ?_ _)); refine blk_put (cs := #[.slice none 0 0]) ?_ 0 _ rfl; (with_reducible repeat (first | refine blk_drewN ?_ _ | refine blk_drew ?_ | refine blk_alloc ?_ _)); exact BK296.out⟩, ⟨by repeat (first | (with_reducible first | exact HB.out | apply below_alloc | apply pw_below_drewN | apply below_drew1 | refine below_set ?_ GE276.out | refine below_set ?_ GE290.out | refine below_set ?_ GE296.out) | exact HB.out)⟩⟩
      case round =>
       clear H'
       try clear c1
       try clear c2
       try clear p2
       try clear q2
       try clear hx2
       try clear c3
       try clear p6
       try clear c8
       try clear c9
       try clear c10
       try clear c11
       try clear c19
       try clear c23
       try clear c23b0
       try clear c24
       try clear c25
       try clear c25b0
       try clear c28
       try clear c29
       try clear c29b0
       try clear c29b1
       try clear c29b2
       try clear p29
       try clear q29
       try clear hx29
       try clear c30
       try clear c33
       try clear c34
       try clear hcz12_0
       try clear hcz14_0
       try clear hcz20_0
       try clear hcz21_0
       try clear hcz31_0
       try clear hcz35_0
       try clear hcz8_0
       try clear hfz12_0
       try clear hfz14_0
       try clear hfz20_0
       try clear hfz21_0
       try clear hfz31_0
       try clear hfz35_0
       try clear hfz8_0
       try clear hx292_0
       try clear hx292_1
       try clear p2
       try clear p292
       try clear q292
       obtain ⟨x11_2, x297000_2, u297000, rfl, HA, HK2, HO_1, HO_5, HO_277000, HO_291000, HO_297000, BK276, BK290, BK296, HB⟩ := hrel
       cases gk with
       | zero => exact absurd HA.out (by simp [graftwoodlaw10_InternAll.l1])
       | succ k2 =>
        have H := HA.out
        clear HA
        simp only [graftwoodlaw10_InternAll.l1] at H
        by_cases c37 : x11_2 < (t280.length : Int)
        ·rw [if_pos c37] at H
         have c37b0 : decide (x11_2 < (t280.length : Int)) = true := decide_eq_true c37
         clear c37
         by_cases c38 : 0 ≤ x11_2
         ·rw [if_pos c38] at H
          have c38b0 : decide (0 ≤ x11_2) = true := decide_eq_true c38
          clear c38
          replace H := Option.bind_eq_some_iff.mp H
          obtain ⟨⟨t298, t299⟩, A390, H⟩ := H
          replace H : (if x11_2 < (t283.length : Int) then (if (rd t283 x11_2) = t298 then (graftwoodlaw10_InternAll.l1 k2 t280 t283 t289 (wrap64 (x11_2 + 1)) t286 t299) else (some false)) else (none)) = some r := H
          have A39 := Aside0.mk A390
          clear A390
          by_cases c40 : x11_2 < (t283.length : Int)
          ·rw [if_pos c40] at H
           have c40b0 : decide (x11_2 < (t283.length : Int)) = true := decide_eq_true c40
           clear c40
           by_cases c41 : (rd t283 x11_2) = t298
           ·rw [if_pos c41] at H
            have c41b0 : ((rd t283 x11_2) == t298) = true := beq_iff_eq.mpr c41
            have c41b1 : ((rd t283 x11_2) != t298) = false := bne_eq_false_iff_eq.mpr c41
            clear c41
            have H' := Aside0.mk H
            clear H
            obtain ⟨Ao42, co42, eo42⟩ := Kd.V_slice HO_297000.out
            subst eo42
            try go_wp2
            have n0_ := Aside0.mk (Kd.R_drew HO_1.out)
            have n1_ := Aside0.mk (Kd.R_drew HO_5.out)
            have n2_ := Aside0.mk (Kd.R_drew HO_277000.out)
            have n3_ := Aside0.mk (Kd.V_drew HO_291000.out)
            have n4_ := Aside0.mk (Kd.V_drew HO_297000.out)
            have n5_ := Aside0.mk (blk_drew BK276.out)
            have n6_ := Aside0.mk (blk_drew BK290.out)
            have n7_ := Aside0.mk (blk_drew BK296.out)
            have n8_ := Aside0.mk (below_drew1 HB.out)
            clear HO_1 HO_5 HO_277000 HO_291000 HO_297000 BK276 BK290 BK296 HB
            have HO_1 := n0_
            have HO_5 := n1_
            have HO_277000 := n2_
            have HO_291000 := n3_
            have HO_297000 := n4_
            have BK276 := n5_
            have BK290 := n6_
            have BK296 := n7_
            have HB := n8_
            clear n0_ n1_ n2_ n3_ n4_ n5_ n6_ n7_ n8_
            have p297 : 0 ≤ (x11_2 : Int) := of_decide_eq_true (by first | (with_reducible assumption) | assumption)
            have q297 : x11_2 < (t280.length : Int) := of_decide_eq_true (by first | (with_reducible assumption) | assumption)
            obtain ⟨ad297, e297, hx297_0, hx297_1⟩ := at_T34 (Kd.R_reads' HO_1.out).2.2 x11_2 p297 q297
            cases e297
            replace p297 := eq_true p297
            replace q297 := eq_true q297
            refine start_ (n := 12) (S := fun w' => w'.cell? ⟨gb296, 0, none⟩ = some (.slice Ao42 x297000_2.length co42) ∧ w'.cell? (ad297.add ((x11_2).toNat * 2)) = some (.string ((rd_T34 t280 x11_2).f0)) ∧ w'.cell? ⟨(ad297.add ((x11_2).toNat * 2)).block, (ad297.add ((x11_2).toNat * 2)).off + 1, none⟩ = some (.string ((rd_T34 t280 x11_2).f1))) (ds := []) #[false, false, false, false, false, false, false, false, false, false, false, false] (by kernel_rfl) rfl rfl ⟨(blk_cell BK296.out 0).trans rfl, hx297_0, hx297_1⟩ (fun hHeld => ?_); refine with_tabW graftwoodlaw10_InternAll.tab16 graftwoodlaw10_InternAll.bits16 (fun HT_ HW_ => ?_)
            generalize wr.drew = w43 at HO_1 HO_5 HO_277000 HO_291000 HO_297000 BK276 BK290 BK296 HB hx297_0 hx297_1 hHeld ⊢
            refine pure_ (i := 1) (N := some 72) (v := ?_) (a' := ?_) #[false, true, false, false, false, false, false, false, false, false, false, false] rfl rfl (any_of HT_.out (by kernel_rfl)) (fun _ _ _ h => h) (Or.inl ⟨by rfl, ?_⟩) ?_ ?_
            rotate_left
            ·intro w'
             go_simp
             with_reducible rfl
            rotate_left
            ·simp only [Act.put, List.setIfInBounds_toArray, List.set_cons_zero, List.set_cons_succ, i64_w, i32_w]
             rfl
            refine pure_ (i := 2) (N := some 73) (v := ?_) (a' := ?_) #[false, true, true, false, false, false, false, false, false, false, false, false] rfl rfl (any_of HT_.out (by kernel_rfl)) (fun _ _ _ h => h) (Or.inl ⟨by rfl, ?_⟩) ?_ ?_
            rotate_left
            ·intro w'
             go_simp
             with_reducible rfl
            rotate_left
            ·simp only [Act.put, List.setIfInBounds_toArray, List.set_cons_zero, List.set_cons_succ, i64_w, i32_w]
             rfl
            refine pure_ (i := 3) (N := some 74) (v := ?_) (a' := ?_) #[false, true, true, true, false, false, false, false, false, false, false, false] rfl rfl (any_of HT_.out (by kernel_rfl)) (fun _ _ _ h => h) (Or.inl ⟨by rfl, ?_⟩) ?_ ?_
            rotate_left
            ·intro w'
             go_simp
             with_reducible rfl
            rotate_left
            ·simp only [Act.put, List.setIfInBounds_toArray, List.set_cons_zero, List.set_cons_succ, i64_w, i32_w]
             rfl
            refine take_ (i := 0) (N := some 71) (v := ?_) (a' := ?_) #[true, true, true, true, false, false, false, false, false, false, false, false] rfl rfl (take_ofW HT_.out HW_.out (by kernel_rfl)) (fun _ _ _ h => h) (Or.inl ⟨by rfl, ?_⟩) hHeld ?_ ?_
            rotate_left
            ·rintro w' ⟨s0, s1, s2⟩
             go_simp
             with_reducible rfl
            rotate_left
            ·simp only [Act.put, List.setIfInBounds_toArray, List.set_cons_zero, List.set_cons_succ, i64_w, i32_w]
             rfl
            refine take_ (i := 4) (N := some 75) (v := ?_) (a' := ?_) #[true, true, true, true, true, false, false, false, false, false, false, false] rfl rfl (take_ofW HT_.out HW_.out (by kernel_rfl)) (fun _ _ _ h => h) (Or.inl ⟨by rfl, ?_⟩) hHeld ?_ ?_
            rotate_left
            ·rintro w' ⟨s0, s1, s2⟩
             go_simp
             with_reducible rfl
            rotate_left
            ·simp only [Act.put, List.setIfInBounds_toArray, List.set_cons_zero, List.set_cons_succ, i64_w, i32_w]
             rfl
            refine join_ (σ := Value × Nat) 2 #[true, true, true, true, true, true, true, true, true, true, false, false] (fun s_ => [(76, .tuple #[.int .i64 t298, .agg #[s_.1]]), (13, .pointer (some ⟨s_.2, 0, none⟩)), (70, .tuple #[.int .i64 t298, .agg #[s_.1]]), (77, .int .i64 t298), (78, .agg #[s_.1])]) (fun s_ w' => (w'.cell? ⟨gb296, 0, none⟩ = some (.slice Ao42 x297000_2.length co42) ∧ w'.cell? (ad297.add ((x11_2).toNat * 2)) = some (.string ((rd_T34 t280 x11_2).f0)) ∧ w'.cell? ⟨(ad297.add ((x11_2).toNat * 2)).block, (ad297.add ((x11_2).toNat * 2)).off + 1, none⟩ = some (.string ((rd_T34 t280 x11_2).f1))) ∧ (Kd.V k34 34 w' w.heap.size (fun k_ => some k_ ≠ (.slice (some ad297) t280.length co15 : Value).ownBlock ∧ some k_ ≠ (.slice Ao36 t283.length co36 : Value).ownBlock ∧ k_ ≠ gb276 ∧ k_ ≠ gb290 ∧ k_ ≠ gb296 ∧ k_ ≠ s_.2) s_.1 t299) ∧ (Kd.R k34 34 w' w.heap.size (fun k_ => some k_ ≠ (.slice Ao11 t277.length co11 : Value).ownBlock) (.slice (some ad297) t280.length co15) t280) ∧ (Kd.R k34 34 w' w.heap.size (fun k_ => some k_ ≠ (.slice (some ad297) t280.length co15 : Value).ownBlock) (.slice Ao11 t277.length co11) t277) ∧ (Kd.V k34 34 w' w.heap.size (fun k_ => some k_ ≠ (.slice (some ad297) t280.length co15 : Value).ownBlock ∧ some k_ ≠ (.slice Ao36 t283.length co36 : Value).ownBlock ∧ k_ ≠ gb276 ∧ k_ ≠ gb290 ∧ k_ ≠ gb296 ∧ k_ ≠ s_.2) (.slice Ao18 t286.length co18) t286) ∧ (Kd.V k34 34 w' w.heap.size (fun k_ => some k_ ≠ (.slice (some ad297) t280.length co15 : Value).ownBlock ∧ some k_ ≠ (.slice Ao36 t283.length co36 : Value).ownBlock ∧ k_ ≠ gb276 ∧ k_ ≠ gb290 ∧ k_ ≠ gb296 ∧ k_ ≠ s_.2) (.slice Ao42 x297000_2.length co42) x297000_2) ∧ (Kd.R (Kd.int .i64) 3 w' w.heap.size (fun _ => True) (.slice Ao36 t283.length co36) t283) ∧ (w'.heap[gb276]? = some (.cells #[.slice Ao11 t277.length co11] 24 (0, 0))) ∧ (w'.heap[gb290]? = some (.cells #[.slice Ao18 t286.length co18] 24 (0, 0))) ∧ (w'.heap[gb296]? = some (.cells #[.slice Ao42 x297000_2.length co42] 24 (0, 0))) ∧ (w'.heap[s_.2]? = some (.cells #[.slice none 0 0] 24 (0, 0))) ∧ (w.heap.size ≤ s_.2) ∧ (w.heap.size ≤ s_.2) ∧ (gb276 ≠ s_.2) ∧ (s_.2 ≠ gb276) ∧ (gb290 ≠ s_.2) ∧ (s_.2 ≠ gb290) ∧ (gb296 ≠ s_.2) ∧ (s_.2 ≠ gb296) ∧ (Below w.heap.size w w')) ?_ ?_
            rotate_left
            ·intro hCont
             refine two_ (i := 5) (j := 9) (Ni := some 76) (Nj := some 13) #[true, true, true, true, true, true, false, false, false, false, false, false] #[true, true, true, true, true, false, false, false, false, true, false, false] rfl rfl rfl rfl (two_of HT_.out (by kernel_rfl)) (by decide) (by decide) (fun K hK => ?_) (fun K hK => ?_)
             ·skip
              refine goes_ Tryd.func15 (by kernel_rfl) rfl #[.agg #[.slice Ao42 x297000_2.length co42], .agg #[.string ((rd_T34 t280 x11_2).f0), .string ((rd_T34 t280 x11_2).f1)]] (by rfl) rfl rfl (by (try simp only [List.map_toArray, List.map_cons, List.map_nil]); first | done | rfl | (simp only [List.length_drop, List.length_take]; rfl)) ?_
              with_reducible refine (graftwoodref10_Id.calls k2 (fun k_ => (some k_ ≠ (.slice (some ad297) t280.length co15 : Value).ownBlock ∧ (some k_ ≠ (.slice Ao36 t283.length co36 : Value).ownBlock ∧ (k_ ≠ gb276 ∧ (k_ ≠ gb290 ∧ k_ ≠ gb296))))) _ _ x297000_2 ((rd_T34 t280 x11_2).f0) ((rd_T34 t280 x11_2).f1) t298 t299 _ ?side1 A39.out).mono ?_
              (case side1 => exact HO_297000.out)
              rintro e w44 ⟨v300, rfl, ho0, hb⟩
              have HS1_ := (hb.cell (World.block_lt_of_cell? _ _ (hHeld.2.1))).trans (hHeld.2.1)
              have HS2_ := (hb.cell (World.block_lt_of_cell? _ _ (hHeld.2.2))).trans (hHeld.2.2)
              refine ⟨_, rfl, ?_⟩
              have n0_ := Aside0.mk (Kd.R_below (by (with_reducible repeat (first | apply Kd.R_alloc | apply Kd.R_drewN | apply Kd.R_drew)); exact HO_1.out) hb)
              have n1_ := Aside0.mk (Kd.R_below (by (with_reducible repeat (first | apply Kd.R_alloc | apply Kd.R_drewN | apply Kd.R_drew)); exact HO_5.out) hb)
              have n2_ := Aside0.mk (Kd.R_below (by (with_reducible repeat (first | apply Kd.R_alloc | apply Kd.R_drewN | apply Kd.R_drew)); exact HO_277000.out) hb)
              have n3_ := Aside0.mk (Kd.V_below (by (with_reducible repeat (first | apply Kd.V_alloc | apply Kd.V_drewN | apply Kd.V_drew)); exact HO_291000.out) hb)
              have n4_ := Aside0.mk (Kd.V_below (by (with_reducible repeat (first | apply Kd.V_alloc | apply Kd.V_drewN | apply Kd.V_drew)); exact HO_297000.out) hb)
              have n5_ := Aside0.mk (Kd.V_lower (Kd.V_mono (ok' := fun k_ => some k_ ≠ (.slice (some ad297) t280.length co15 : Value).ownBlock ∧ some k_ ≠ (.slice Ao36 t283.length co36 : Value).ownBlock ∧ k_ ≠ gb276 ∧ k_ ≠ gb290 ∧ k_ ≠ gb296) ho0 (fun k_ hk_ => ⟨Or.elim hk_ (fun hs_ => hs_.1) (fun hn_ => (Kd.fresh' (Kd.R_lt (by (with_reducible repeat (first | apply Kd.R_alloc | apply Kd.R_drewN | apply Kd.R_drew)); exact HO_1.out)) k_ hn_)), Or.elim hk_ (fun hs_ => hs_.2.1) (fun hn_ => (Kd.fresh' (Kd.R_lt (by (with_reducible repeat (first | apply Kd.R_alloc | apply Kd.R_drewN | apply Kd.R_drew)); exact HO_5.out)) k_ hn_)), Or.elim hk_ (fun hs_ => hs_.2.2.1) (fun hn_ => (Kd.freshB (g := gb276) (o := .cells #[.slice Ao11 t277.length co11] 24 (0, 0)) (by (with_reducible repeat (first | refine blk_drewN ?_ _ | refine blk_drew ?_ | refine blk_alloc ?_ _)); exact BK276.out) k_ hn_)), Or.elim hk_ (fun hs_ => hs_.2.2.2.1) (fun hn_ => (Kd.freshB (g := gb290) (o := .cells #[.slice Ao18 t286.length co18] 24 (0, 0)) (by (with_reducible repeat (first | refine blk_drewN ?_ _ | refine blk_drew ?_ | refine blk_alloc ?_ _)); exact BK290.out) k_ hn_)), Or.elim hk_ (fun hs_ => hs_.2.2.2.2) (fun hn_ => (Kd.freshB (g := gb296) (o := .cells #[.slice Ao42 x297000_2.length co42] 24 (0, 0)) (by (with_reducible repeat (first | refine blk_drewN ?_ _ | refine blk_drew ?_ | refine blk_alloc ?_ _)); exact BK296.out) k_ hn_))⟩)) (below_size (by repeat (first | (with_reducible first | exact HB.out | apply below_alloc | apply pw_below_drewN | apply below_drew1 | refine below_set ?_ GE276.out | refine below_set ?_ GE290.out | refine below_set ?_ GE296.out) | exact HB.out))))
              have n6_ := Aside0.mk (blk_below (g := gb276) (o := .cells #[.slice Ao11 t277.length co11] 24 (0, 0)) (by (with_reducible repeat (first | refine blk_drewN ?_ _ | refine blk_drew ?_ | refine blk_alloc ?_ _)); exact BK276.out) hb)
              have n7_ := Aside0.mk (blk_below (g := gb290) (o := .cells #[.slice Ao18 t286.length co18] 24 (0, 0)) (by (with_reducible repeat (first | refine blk_drewN ?_ _ | refine blk_drew ?_ | refine blk_alloc ?_ _)); exact BK290.out) hb)
              have n8_ := Aside0.mk (blk_below (g := gb296) (o := .cells #[.slice Ao42 x297000_2.length co42] 24 (0, 0)) (by (with_reducible repeat (first | refine blk_drewN ?_ _ | refine blk_drew ?_ | refine blk_alloc ?_ _)); exact BK296.out) hb)
              have n9_ := Aside0.mk (below_step (by repeat (first | (with_reducible first | exact HB.out | apply below_alloc | apply pw_below_drewN | apply below_drew1 | refine below_set ?_ GE276.out | refine below_set ?_ GE290.out | refine below_set ?_ GE296.out) | exact HB.out)) hb)
              clear HO_1 HO_5 HO_277000 HO_291000 HO_297000 BK276 BK290 BK296 HB
              have HO_1 := n0_
              have HO_5 := n1_
              have HO_277000 := n2_
              have HO_291000 := n3_
              have HO_297000 := n4_
              have HO301 := n5_
              have BK276 := n6_
              have BK290 := n7_
              have BK296 := n8_
              have HB := n9_
              clear n0_ n1_ n2_ n3_ n4_ n5_ n6_ n7_ n8_ n9_
              (try clear hb)
              (try clear hb2)
              (try clear hk)
              (try clear hi)
              (try clear ho0)
              refine hK.out _ _ ⟨(blk_cell BK296.out 0).trans rfl, HS1_, HS2_⟩ (fun hHeld => ?_)
              clear hK K
              refine norm_ (a' := ?_) ?_ ?_
              rotate_left
              ·show Act.put _ (some 76) _ = _
               simp only [Act.put, List.setIfInBounds_toArray, List.set_cons_zero, List.set_cons_succ, i64_w, i32_w]
               rfl
              refine pure_ (i := 6) (N := some 70) (v := ?_) (a' := ?_) #[true, true, true, true, true, true, true, false, false, false, false, false] rfl rfl (any_of HT_.out (by kernel_rfl)) (fun _ _ _ h => h) (Or.inl ⟨by rfl, ?_⟩) ?_ ?_
              rotate_left
              ·intro w'
               go_simp
               with_reducible rfl
              rotate_left
              ·simp only [Act.put, List.setIfInBounds_toArray, List.set_cons_zero, List.set_cons_succ, i64_w, i32_w]
               rfl
              refine pure_ (i := 7) (N := some 77) (v := ?_) (a' := ?_) #[true, true, true, true, true, true, true, true, false, false, false, false] rfl rfl (any_of HT_.out (by kernel_rfl)) (fun _ _ _ h => h) (Or.inl ⟨by rfl, ?_⟩) ?_ ?_
              rotate_left
              ·intro w'
               go_simp
               with_reducible rfl
              rotate_left
              ·simp only [Act.put, List.setIfInBounds_toArray, List.set_cons_zero, List.set_cons_succ, i64_w, i32_w]
               rfl
              refine pure_ (i := 8) (N := some 78) (v := ?_) (a' := ?_) #[true, true, true, true, true, true, true, true, true, false, false, false] rfl rfl (any_of HT_.out (by kernel_rfl)) (fun _ _ _ h => h) (Or.inl ⟨by rfl, ?_⟩) ?_ ?_
              rotate_left
              ·intro w'
               go_simp
               with_reducible rfl
              rotate_left
              ·simp only [Act.put, List.setIfInBounds_toArray, List.set_cons_zero, List.set_cons_succ, i64_w, i32_w]
               rfl
              refine one_ (i := 9) (N := some 13) #[true, true, true, true, true, true, true, true, true, true, false, false] rfl rfl (one_of HT_.out (by kernel_rfl)) (by decide) (fun K hK => ?_)
              refine box_step ?hg (N := 13) ?hd (cs := #[.slice none 0 0]) (t := 24) ?hr ?_; (case hd => rfl); (case hg => rfl); (case hr => first | (go_simp; done) | (go_simp; rfl))
              intro gb302 hg w45 hbox hb
              have HS1_ := (hb.cell (World.block_lt_of_cell? _ _ (hHeld.2.1))).trans (hHeld.2.1)
              have HS2_ := (hb.cell (World.block_lt_of_cell? _ _ (hHeld.2.2))).trans (hHeld.2.2)
              have n0_ := Aside0.mk (Kd.R_below (by (with_reducible repeat (first | apply Kd.R_alloc | apply Kd.R_drewN | apply Kd.R_drew)); exact HO_1.out) hb)
              have n1_ := Aside0.mk (Kd.R_below (by (with_reducible repeat (first | apply Kd.R_alloc | apply Kd.R_drewN | apply Kd.R_drew)); exact HO_5.out) hb)
              have n2_ := Aside0.mk (Kd.R_below (by (with_reducible repeat (first | apply Kd.R_alloc | apply Kd.R_drewN | apply Kd.R_drew)); exact HO_277000.out) hb)
              have n3_ := Aside0.mk (Kd.V_below (Kd.V_elderB (by (with_reducible repeat (first | apply Kd.V_alloc | apply Kd.V_drewN | apply Kd.V_drew)); exact HO_291000.out) gb302 (Nat.le_of_eq hg.symm)) hb)
              have n4_ := Aside0.mk (Kd.V_below (Kd.V_elderB (by (with_reducible repeat (first | apply Kd.V_alloc | apply Kd.V_drewN | apply Kd.V_drew)); exact HO_297000.out) gb302 (Nat.le_of_eq hg.symm)) hb)
              have n5_ := Aside0.mk (Kd.V_below (Kd.V_elderB (by (with_reducible repeat (first | apply Kd.V_alloc | apply Kd.V_drewN | apply Kd.V_drew)); exact HO301.out) gb302 (Nat.le_of_eq hg.symm)) hb)
              have n6_ := Aside0.mk (blk_below (g := gb276) (o := .cells #[.slice Ao11 t277.length co11] 24 (0, 0)) (by (with_reducible repeat (first | refine blk_drewN ?_ _ | refine blk_drew ?_ | refine blk_alloc ?_ _)); exact BK276.out) hb)
              have n7_ := Aside0.mk (blk_below (g := gb290) (o := .cells #[.slice Ao18 t286.length co18] 24 (0, 0)) (by (with_reducible repeat (first | refine blk_drewN ?_ _ | refine blk_drew ?_ | refine blk_alloc ?_ _)); exact BK290.out) hb)
              have n8_ := Aside0.mk (blk_below (g := gb296) (o := .cells #[.slice Ao42 x297000_2.length co42] 24 (0, 0)) (by (with_reducible repeat (first | refine blk_drewN ?_ _ | refine blk_drew ?_ | refine blk_alloc ?_ _)); exact BK296.out) hb)
              have n9_ := Aside0.mk (below_step (by repeat (first | (with_reducible first | exact HB.out | apply below_alloc | apply pw_below_drewN | apply below_drew1 | refine below_set ?_ GE276.out | refine below_set ?_ GE290.out | refine below_set ?_ GE296.out) | exact HB.out)) hb)
              have n10_ := Aside0.mk (hbox)
              have n11_ := Aside0.mk ((by rw [hg]; exact (below_size (by repeat (first | (with_reducible first | exact HB.out | apply below_alloc | apply pw_below_drewN | apply below_drew1 | refine below_set ?_ GE276.out | refine below_set ?_ GE290.out | refine below_set ?_ GE296.out) | exact HB.out))) : w.heap.size ≤ gb302))
              have n12_ := Aside0.mk ((by rw [hg]; exact (below_size (by repeat (first | (with_reducible first | exact HB.out | apply below_alloc | apply pw_below_drewN | apply below_drew1 | refine below_set ?_ GE276.out | refine below_set ?_ GE290.out | refine below_set ?_ GE296.out) | exact HB.out))) : w.heap.size ≤ gb302))
              have n13_ := Aside0.mk ((by rw [hg]; exact Nat.ne_of_lt (blk_lt (g := gb276) (o := .cells #[.slice Ao11 t277.length co11] 24 (0, 0)) (by (with_reducible repeat (first | refine blk_drewN ?_ _ | refine blk_drew ?_ | refine blk_alloc ?_ _)); exact BK276.out)) : gb276 ≠ gb302))
              have n14_ := Aside0.mk ((by rw [hg]; exact Nat.ne_of_gt (blk_lt (g := gb276) (o := .cells #[.slice Ao11 t277.length co11] 24 (0, 0)) (by (with_reducible repeat (first | refine blk_drewN ?_ _ | refine blk_drew ?_ | refine blk_alloc ?_ _)); exact BK276.out)) : gb302 ≠ gb276))
              have n15_ := Aside0.mk ((by rw [hg]; exact Nat.ne_of_lt (blk_lt (g := gb290) (o := .cells #[.slice Ao18 t286.length co18] 24 (0, 0)) (by (with_reducible repeat (first | refine blk_drewN ?_ _ | refine blk_drew ?_ | refine blk_alloc ?_ _)); exact BK290.out)) : gb290 ≠ gb302))
              have n16_ := Aside0.mk ((by rw [hg]; exact Nat.ne_of_gt (blk_lt (g := gb290) (o := .cells #[.slice Ao18 t286.length co18] 24 (0, 0)) (by (with_reducible repeat (first | refine blk_drewN ?_ _ | refine blk_drew ?_ | refine blk_alloc ?_ _)); exact BK290.out)) : gb302 ≠ gb290))
              have n17_ := Aside0.mk ((by rw [hg]; exact Nat.ne_of_lt (blk_lt (g := gb296) (o := .cells #[.slice Ao42 x297000_2.length co42] 24 (0, 0)) (by (with_reducible repeat (first | refine blk_drewN ?_ _ | refine blk_drew ?_ | refine blk_alloc ?_ _)); exact BK296.out)) : gb296 ≠ gb302))
              have n18_ := Aside0.mk ((by rw [hg]; exact Nat.ne_of_gt (blk_lt (g := gb296) (o := .cells #[.slice Ao42 x297000_2.length co42] 24 (0, 0)) (by (with_reducible repeat (first | refine blk_drewN ?_ _ | refine blk_drew ?_ | refine blk_alloc ?_ _)); exact BK296.out)) : gb302 ≠ gb296))
              clear HO_1 HO_5 HO_277000 HO_291000 HO_297000 HO301 BK276 BK290 BK296 HB
              have HO_1 := n0_
              have HO_5 := n1_
              have HO_277000 := n2_
              have HO_291000 := n3_
              have HO_297000 := n4_
              have HO301 := n5_
              have BK276 := n6_
              have BK290 := n7_
              have BK296 := n8_
              have HB := n9_
              have BK302 := n10_
              have GW302 := n11_
              have GE302 := n12_
              have NB276_302 := n13_
              have NB302_276 := n14_
              have NB290_302 := n15_
              have NB302_290 := n16_
              have NB296_302 := n17_
              have NB302_296 := n18_
              clear n0_ n1_ n2_ n3_ n4_ n5_ n6_ n7_ n8_ n9_ n10_ n11_ n12_ n13_ n14_ n15_ n16_ n17_ n18_ hb hbox hg
              refine hK.out _ _ ⟨(blk_cell BK296.out 0).trans rfl, HS1_, HS2_⟩ (fun hHeld => ?_)
              clear hK K
              refine norm_ (a' := ?_) ?_ ?_
              rotate_left
              ·show Act.put _ (some 13) _ = _
               simp only [Act.put, List.setIfInBounds_toArray, List.set_cons_zero, List.set_cons_succ, i64_w, i32_w]
               rfl
              exact norm_ (by simp only [putAll, Act.put, List.setIfInBounds_toArray, List.set_cons_zero, List.set_cons_succ]) (hCont (v300, gb302) _ ⟨hHeld, (by (with_reducible repeat (first | apply Kd.V_alloc | apply Kd.V_drewN | apply Kd.V_drew)); exact Kd.V_mono HO301.out (fun _ hk => ⟨hk.1.1, ⟨hk.1.2.1, ⟨hk.1.2.2.1, ⟨hk.1.2.2.2.1, ⟨hk.1.2.2.2.2, hk.2⟩⟩⟩⟩⟩)), (by (with_reducible repeat (first | apply Kd.R_alloc | apply Kd.R_drewN | apply Kd.R_drew)); exact HO_1.out), (by (with_reducible repeat (first | apply Kd.R_alloc | apply Kd.R_drewN | apply Kd.R_drew)); exact HO_277000.out), (by (with_reducible repeat (first | apply Kd.V_alloc | apply Kd.V_drewN | apply Kd.V_drew)); exact Kd.V_mono HO_291000.out (fun _ hk => ⟨hk.1.1, ⟨hk.1.2.1, ⟨hk.1.2.2.1, ⟨hk.1.2.2.2.1, ⟨hk.1.2.2.2.2, hk.2⟩⟩⟩⟩⟩)), (by (with_reducible repeat (first | apply Kd.V_alloc | apply Kd.V_drewN | apply Kd.V_drew)); exact Kd.V_mono HO_297000.out (fun _ hk => ⟨hk.1.1, ⟨hk.1.2.1, ⟨hk.1.2.2.1, ⟨hk.1.2.2.2.1, ⟨hk.1.2.2.2.2, hk.2⟩⟩⟩⟩⟩)), (by (with_reducible repeat (first | apply Kd.R_alloc | apply Kd.R_drewN | apply Kd.R_drew)); exact HO_5.out), (by (with_reducible repeat (first | refine blk_drewN ?_ _ | refine blk_drew ?_ | refine blk_alloc ?_ _)); exact BK276.out), (by (with_reducible repeat (first | refine blk_drewN ?_ _ | refine blk_drew ?_ | refine blk_alloc ?_ _)); exact BK290.out), (by (with_reducible repeat (first | refine blk_drewN ?_ _ | refine blk_drew ?_ | refine blk_alloc ?_ _)); exact BK296.out), (by (with_reducible repeat (first | refine blk_drewN ?_ _ | refine blk_drew ?_ | refine blk_alloc ?_ _)); exact BK302.out), GW302.out, GE302.out, NB276_302.out, NB302_276.out, NB290_302.out, NB302_290.out, NB296_302.out, NB302_296.out, (by repeat (first | (with_reducible first | exact HB.out | apply below_alloc | apply pw_below_drewN | apply below_drew1 | refine below_set ?_ GE276.out | refine below_set ?_ GE290.out | refine below_set ?_ GE296.out | refine below_set ?_ GE302.out) | exact HB.out))⟩)
             ·skip
              refine box_step ?hg (N := 13) ?hd (cs := #[.slice none 0 0]) (t := 24) ?hr ?_; (case hd => rfl); (case hg => rfl); (case hr => first | (go_simp; done) | (go_simp; rfl))
              intro gb302 hg w44 hbox hb
              have HS1_ := (hb.cell (World.block_lt_of_cell? _ _ (hHeld.2.1))).trans (hHeld.2.1)
              have HS2_ := (hb.cell (World.block_lt_of_cell? _ _ (hHeld.2.2))).trans (hHeld.2.2)
              have n0_ := Aside0.mk (Kd.R_below (by (with_reducible repeat (first | apply Kd.R_alloc | apply Kd.R_drewN | apply Kd.R_drew)); exact HO_1.out) hb)
              have n1_ := Aside0.mk (Kd.R_below (by (with_reducible repeat (first | apply Kd.R_alloc | apply Kd.R_drewN | apply Kd.R_drew)); exact HO_5.out) hb)
              have n2_ := Aside0.mk (Kd.R_below (by (with_reducible repeat (first | apply Kd.R_alloc | apply Kd.R_drewN | apply Kd.R_drew)); exact HO_277000.out) hb)
              have n3_ := Aside0.mk (Kd.V_below (Kd.V_elderB (by (with_reducible repeat (first | apply Kd.V_alloc | apply Kd.V_drewN | apply Kd.V_drew)); exact HO_291000.out) gb302 (Nat.le_of_eq hg.symm)) hb)
              have n4_ := Aside0.mk (Kd.V_below (Kd.V_elderB (by (with_reducible repeat (first | apply Kd.V_alloc | apply Kd.V_drewN | apply Kd.V_drew)); exact HO_297000.out) gb302 (Nat.le_of_eq hg.symm)) hb)
              have n5_ := Aside0.mk (blk_below (g := gb276) (o := .cells #[.slice Ao11 t277.length co11] 24 (0, 0)) (by (with_reducible repeat (first | refine blk_drewN ?_ _ | refine blk_drew ?_ | refine blk_alloc ?_ _)); exact BK276.out) hb)
              have n6_ := Aside0.mk (blk_below (g := gb290) (o := .cells #[.slice Ao18 t286.length co18] 24 (0, 0)) (by (with_reducible repeat (first | refine blk_drewN ?_ _ | refine blk_drew ?_ | refine blk_alloc ?_ _)); exact BK290.out) hb)
              have n7_ := Aside0.mk (blk_below (g := gb296) (o := .cells #[.slice Ao42 x297000_2.length co42] 24 (0, 0)) (by (with_reducible repeat (first | refine blk_drewN ?_ _ | refine blk_drew ?_ | refine blk_alloc ?_ _)); exact BK296.out) hb)
              have n8_ := Aside0.mk (below_step (by repeat (first | (with_reducible first | exact HB.out | apply below_alloc | apply pw_below_drewN | apply below_drew1 | refine below_set ?_ GE276.out | refine below_set ?_ GE290.out | refine below_set ?_ GE296.out) | exact HB.out)) hb)
              have n9_ := Aside0.mk (hbox)
              have n10_ := Aside0.mk ((by rw [hg]; exact (below_size (by repeat (first | (with_reducible first | exact HB.out | apply below_alloc | apply pw_below_drewN | apply below_drew1 | refine below_set ?_ GE276.out | refine below_set ?_ GE290.out | refine below_set ?_ GE296.out) | exact HB.out))) : w.heap.size ≤ gb302))
              have n11_ := Aside0.mk ((by rw [hg]; exact (below_size (by repeat (first | (with_reducible first | exact HB.out | apply below_alloc | apply pw_below_drewN | apply below_drew1 | refine below_set ?_ GE276.out | refine below_set ?_ GE290.out | refine below_set ?_ GE296.out) | exact HB.out))) : w.heap.size ≤ gb302))
              have n12_ := Aside0.mk ((by rw [hg]; exact Nat.ne_of_lt (blk_lt (g := gb276) (o := .cells #[.slice Ao11 t277.length co11] 24 (0, 0)) (by (with_reducible repeat (first | refine blk_drewN ?_ _ | refine blk_drew ?_ | refine blk_alloc ?_ _)); exact BK276.out)) : gb276 ≠ gb302))
              have n13_ := Aside0.mk ((by rw [hg]; exact Nat.ne_of_gt (blk_lt (g := gb276) (o := .cells #[.slice Ao11 t277.length co11] 24 (0, 0)) (by (with_reducible repeat (first | refine blk_drewN ?_ _ | refine blk_drew ?_ | refine blk_alloc ?_ _)); exact BK276.out)) : gb302 ≠ gb276))
              have n14_ := Aside0.mk ((by rw [hg]; exact Nat.ne_of_lt (blk_lt (g := gb290) (o := .cells #[.slice Ao18 t286.length co18] 24 (0, 0)) (by (with_reducible repeat (first | refine blk_drewN ?_ _ | refine blk_drew ?_ | refine blk_alloc ?_ _)); exact BK290.out)) : gb290 ≠ gb302))
              have n15_ := Aside0.mk ((by rw [hg]; exact Nat.ne_of_gt (blk_lt (g := gb290) (o := .cells #[.slice Ao18 t286.length co18] 24 (0, 0)) (by (with_reducible repeat (first | refine blk_drewN ?_ _ | refine blk_drew ?_ | refine blk_alloc ?_ _)); exact BK290.out)) : gb302 ≠ gb290))
              have n16_ := Aside0.mk ((by rw [hg]; exact Nat.ne_of_lt (blk_lt (g := gb296) (o := .cells #[.slice Ao42 x297000_2.length co42] 24 (0, 0)) (by (with_reducible repeat (first | refine blk_drewN ?_ _ | refine blk_drew ?_ | refine blk_alloc ?_ _)); exact BK296.out)) : gb296 ≠ gb302))
              have n17_ := Aside0.mk ((by rw [hg]; exact Nat.ne_of_gt (blk_lt (g := gb296) (o := .cells #[.slice Ao42 x297000_2.length co42] 24 (0, 0)) (by (with_reducible repeat (first | refine blk_drewN ?_ _ | refine blk_drew ?_ | refine blk_alloc ?_ _)); exact BK296.out)) : gb302 ≠ gb296))
              clear HO_1 HO_5 HO_277000 HO_291000 HO_297000 BK276 BK290 BK296 HB
              have HO_1 := n0_
              have HO_5 := n1_
              have HO_277000 := n2_
              have HO_291000 := n3_
              have HO_297000 := n4_
              have BK276 := n5_
              have BK290 := n6_
              have BK296 := n7_
              have HB := n8_
              have BK302 := n9_
              have GW302 := n10_
              have GE302 := n11_
              have NB276_302 := n12_
              have NB302_276 := n13_
              have NB290_302 := n14_
              have NB302_290 := n15_
              have NB296_302 := n16_
              have NB302_296 := n17_
              clear n0_ n1_ n2_ n3_ n4_ n5_ n6_ n7_ n8_ n9_ n10_ n11_ n12_ n13_ n14_ n15_ n16_ n17_ hb hbox hg
              refine hK.out _ _ ⟨(blk_cell BK296.out 0).trans rfl, HS1_, HS2_⟩ (fun hHeld => ?_)
              clear hK K
              refine norm_ (a' := ?_) ?_ ?_
              rotate_left
              ·show Act.put _ (some 13) _ = _
               simp only [Act.put, List.setIfInBounds_toArray, List.set_cons_zero, List.set_cons_succ, i64_w, i32_w]
               rfl
              refine one_ (i := 5) (N := some 76) #[true, true, true, true, true, true, false, false, false, true, false, false] rfl rfl (one_of HT_.out (by kernel_rfl)) (by decide) (fun K hK => ?_)
              refine goes_ Tryd.func15 (by kernel_rfl) rfl #[.agg #[.slice Ao42 x297000_2.length co42], .agg #[.string ((rd_T34 t280 x11_2).f0), .string ((rd_T34 t280 x11_2).f1)]] (by rfl) rfl rfl (by (try simp only [List.map_toArray, List.map_cons, List.map_nil]); first | done | rfl | (simp only [List.length_drop, List.length_take]; rfl)) ?_
              with_reducible refine (graftwoodref10_Id.calls k2 (fun k_ => ((some k_ ≠ (.slice (some ad297) t280.length co15 : Value).ownBlock ∧ (some k_ ≠ (.slice Ao36 t283.length co36 : Value).ownBlock ∧ (k_ ≠ gb276 ∧ (k_ ≠ gb290 ∧ k_ ≠ gb296)))) ∧ k_ ≠ gb302)) _ _ x297000_2 ((rd_T34 t280 x11_2).f0) ((rd_T34 t280 x11_2).f1) t298 t299 _ ?side1 A39.out).mono ?_
              (case side1 => exact HO_297000.out)
              rintro e w45 ⟨v300, rfl, ho0, hb⟩
              have HS1_ := (hb.cell (World.block_lt_of_cell? _ _ (hHeld.2.1))).trans (hHeld.2.1)
              have HS2_ := (hb.cell (World.block_lt_of_cell? _ _ (hHeld.2.2))).trans (hHeld.2.2)
              refine ⟨_, rfl, ?_⟩
              have n0_ := Aside0.mk (Kd.R_below (by (with_reducible repeat (first | apply Kd.R_alloc | apply Kd.R_drewN | apply Kd.R_drew)); exact HO_1.out) hb)
              have n1_ := Aside0.mk (Kd.R_below (by (with_reducible repeat (first | apply Kd.R_alloc | apply Kd.R_drewN | apply Kd.R_drew)); exact HO_5.out) hb)
              have n2_ := Aside0.mk (Kd.R_below (by (with_reducible repeat (first | apply Kd.R_alloc | apply Kd.R_drewN | apply Kd.R_drew)); exact HO_277000.out) hb)
              have n3_ := Aside0.mk (Kd.V_below (by (with_reducible repeat (first | apply Kd.V_alloc | apply Kd.V_drewN | apply Kd.V_drew)); exact HO_291000.out) hb)
              have n4_ := Aside0.mk (Kd.V_below (by (with_reducible repeat (first | apply Kd.V_alloc | apply Kd.V_drewN | apply Kd.V_drew)); exact HO_297000.out) hb)
              have n5_ := Aside0.mk (Kd.V_lower (Kd.V_mono (ok' := fun k_ => some k_ ≠ (.slice (some ad297) t280.length co15 : Value).ownBlock ∧ some k_ ≠ (.slice Ao36 t283.length co36 : Value).ownBlock ∧ k_ ≠ gb276 ∧ k_ ≠ gb290 ∧ k_ ≠ gb296 ∧ k_ ≠ gb302) ho0 (fun k_ hk_ => ⟨Or.elim hk_ (fun hs_ => hs_.1.1) (fun hn_ => (Kd.fresh' (Kd.R_lt (by (with_reducible repeat (first | apply Kd.R_alloc | apply Kd.R_drewN | apply Kd.R_drew)); exact HO_1.out)) k_ hn_)), Or.elim hk_ (fun hs_ => hs_.1.2.1) (fun hn_ => (Kd.fresh' (Kd.R_lt (by (with_reducible repeat (first | apply Kd.R_alloc | apply Kd.R_drewN | apply Kd.R_drew)); exact HO_5.out)) k_ hn_)), Or.elim hk_ (fun hs_ => hs_.1.2.2.1) (fun hn_ => (Kd.freshB (g := gb276) (o := .cells #[.slice Ao11 t277.length co11] 24 (0, 0)) (by (with_reducible repeat (first | refine blk_drewN ?_ _ | refine blk_drew ?_ | refine blk_alloc ?_ _)); exact BK276.out) k_ hn_)), Or.elim hk_ (fun hs_ => hs_.1.2.2.2.1) (fun hn_ => (Kd.freshB (g := gb290) (o := .cells #[.slice Ao18 t286.length co18] 24 (0, 0)) (by (with_reducible repeat (first | refine blk_drewN ?_ _ | refine blk_drew ?_ | refine blk_alloc ?_ _)); exact BK290.out) k_ hn_)), Or.elim hk_ (fun hs_ => hs_.1.2.2.2.2) (fun hn_ => (Kd.freshB (g := gb296) (o := .cells #[.slice Ao42 x297000_2.length co42] 24 (0, 0)) (by (with_reducible repeat (first | refine blk_drewN ?_ _ | refine blk_drew ?_ | refine blk_alloc ?_ _)); exact BK296.out) k_ hn_)), Or.elim hk_ (fun hs_ => hs_.2) (fun hn_ => (Kd.freshB (g := gb302) (o := .cells #[.slice none 0 0] 24 (0, 0)) (by (with_reducible repeat (first | refine blk_drewN ?_ _ | refine blk_drew ?_ | refine blk_alloc ?_ _)); exact BK302.out) k_ hn_))⟩)) (below_size (by repeat (first | (with_reducible first | exact HB.out | apply below_alloc | apply pw_below_drewN | apply below_drew1 | refine below_set ?_ GE276.out | refine below_set ?_ GE290.out | refine below_set ?_ GE296.out | refine below_set ?_ GE302.out) | exact HB.out))))
              have n6_ := Aside0.mk (blk_below (g := gb276) (o := .cells #[.slice Ao11 t277.length co11] 24 (0, 0)) (by (with_reducible repeat (first | refine blk_drewN ?_ _ | refine blk_drew ?_ | refine blk_alloc ?_ _)); exact BK276.out) hb)
              have n7_ := Aside0.mk (blk_below (g := gb290) (o := .cells #[.slice Ao18 t286.length co18] 24 (0, 0)) (by (with_reducible repeat (first | refine blk_drewN ?_ _ | refine blk_drew ?_ | refine blk_alloc ?_ _)); exact BK290.out) hb)
              have n8_ := Aside0.mk (blk_below (g := gb296) (o := .cells #[.slice Ao42 x297000_2.length co42] 24 (0, 0)) (by (with_reducible repeat (first | refine blk_drewN ?_ _ | refine blk_drew ?_ | refine blk_alloc ?_ _)); exact BK296.out) hb)
              have n9_ := Aside0.mk (blk_below (g := gb302) (o := .cells #[.slice none 0 0] 24 (0, 0)) (by (with_reducible repeat (first | refine blk_drewN ?_ _ | refine blk_drew ?_ | refine blk_alloc ?_ _)); exact BK302.out) hb)
              have n10_ := Aside0.mk (below_step (by repeat (first | (with_reducible first | exact HB.out | apply below_alloc | apply pw_below_drewN | apply below_drew1 | refine below_set ?_ GE276.out | refine below_set ?_ GE290.out | refine below_set ?_ GE296.out | refine below_set ?_ GE302.out) | exact HB.out)) hb)
              clear HO_1 HO_5 HO_277000 HO_291000 HO_297000 BK276 BK290 BK296 BK302 HB
              have HO_1 := n0_
              have HO_5 := n1_
              have HO_277000 := n2_
              have HO_291000 := n3_
              have HO_297000 := n4_
              have HO301 := n5_
              have BK276 := n6_
              have BK290 := n7_
              have BK296 := n8_
              have BK302 := n9_
              have HB := n10_
              clear n0_ n1_ n2_ n3_ n4_ n5_ n6_ n7_ n8_ n9_ n10_
              (try clear hb)
              (try clear hb2)
              (try clear hk)
              (try clear hi)
              (try clear ho0)
              refine hK.out _ _ ⟨(blk_cell BK296.out 0).trans rfl, HS1_, HS2_⟩ (fun hHeld => ?_)
              clear hK K
              refine norm_ (a' := ?_) ?_ ?_
              rotate_left
              ·show Act.put _ (some 76) _ = _
               simp only [Act.put, List.setIfInBounds_toArray, List.set_cons_zero, List.set_cons_succ, i64_w, i32_w]
               rfl
              refine pure_ (i := 6) (N := some 70) (v := ?_) (a' := ?_) #[true, true, true, true, true, true, true, false, false, true, false, false] rfl rfl (any_of HT_.out (by kernel_rfl)) (fun _ _ _ h => h) (Or.inl ⟨by rfl, ?_⟩) ?_ ?_
              rotate_left
              ·intro w'
               go_simp
               with_reducible rfl
              rotate_left
              ·simp only [Act.put, List.setIfInBounds_toArray, List.set_cons_zero, List.set_cons_succ, i64_w, i32_w]
               rfl
              refine pure_ (i := 7) (N := some 77) (v := ?_) (a' := ?_) #[true, true, true, true, true, true, true, true, false, true, false, false] rfl rfl (any_of HT_.out (by kernel_rfl)) (fun _ _ _ h => h) (Or.inl ⟨by rfl, ?_⟩) ?_ ?_
              rotate_left
              ·intro w'
               go_simp
               with_reducible rfl
              rotate_left
              ·simp only [Act.put, List.setIfInBounds_toArray, List.set_cons_zero, List.set_cons_succ, i64_w, i32_w]
               rfl
              refine pure_ (i := 8) (N := some 78) (v := ?_) (a' := ?_) #[true, true, true, true, true, true, true, true, true, true, false, false] rfl rfl (any_of HT_.out (by kernel_rfl)) (fun _ _ _ h => h) (Or.inl ⟨by rfl, ?_⟩) ?_ ?_
              rotate_left
              ·intro w'
               go_simp
               with_reducible rfl
              rotate_left
              ·simp only [Act.put, List.setIfInBounds_toArray, List.set_cons_zero, List.set_cons_succ, i64_w, i32_w]
               rfl
              exact norm_ (by simp only [putAll, Act.put, List.setIfInBounds_toArray, List.set_cons_zero, List.set_cons_succ]) (hCont (v300, gb302) _ ⟨hHeld, (by (with_reducible repeat (first | apply Kd.V_alloc | apply Kd.V_drewN | apply Kd.V_drew)); exact HO301.out), (by (with_reducible repeat (first | apply Kd.R_alloc | apply Kd.R_drewN | apply Kd.R_drew)); exact HO_1.out), (by (with_reducible repeat (first | apply Kd.R_alloc | apply Kd.R_drewN | apply Kd.R_drew)); exact HO_277000.out), (by (with_reducible repeat (first | apply Kd.V_alloc | apply Kd.V_drewN | apply Kd.V_drew)); exact Kd.V_mono HO_291000.out (fun _ hk => ⟨hk.1.1, ⟨hk.1.2.1, ⟨hk.1.2.2.1, ⟨hk.1.2.2.2.1, ⟨hk.1.2.2.2.2, hk.2⟩⟩⟩⟩⟩)), (by (with_reducible repeat (first | apply Kd.V_alloc | apply Kd.V_drewN | apply Kd.V_drew)); exact Kd.V_mono HO_297000.out (fun _ hk => ⟨hk.1.1, ⟨hk.1.2.1, ⟨hk.1.2.2.1, ⟨hk.1.2.2.2.1, ⟨hk.1.2.2.2.2, hk.2⟩⟩⟩⟩⟩)), (by (with_reducible repeat (first | apply Kd.R_alloc | apply Kd.R_drewN | apply Kd.R_drew)); exact HO_5.out), (by (with_reducible repeat (first | refine blk_drewN ?_ _ | refine blk_drew ?_ | refine blk_alloc ?_ _)); exact BK276.out), (by (with_reducible repeat (first | refine blk_drewN ?_ _ | refine blk_drew ?_ | refine blk_alloc ?_ _)); exact BK290.out), (by (with_reducible repeat (first | refine blk_drewN ?_ _ | refine blk_drew ?_ | refine blk_alloc ?_ _)); exact BK296.out), (by (with_reducible repeat (first | refine blk_drewN ?_ _ | refine blk_drew ?_ | refine blk_alloc ?_ _)); exact BK302.out), GW302.out, GE302.out, NB276_302.out, NB302_276.out, NB290_302.out, NB302_290.out, NB296_302.out, NB302_296.out, (by repeat (first | (with_reducible first | exact HB.out | apply below_alloc | apply pw_below_drewN | apply below_drew1 | refine below_set ?_ GE276.out | refine below_set ?_ GE290.out | refine below_set ?_ GE296.out | refine below_set ?_ GE302.out) | exact HB.out))⟩)
            rintro ⟨v300, gb302⟩ w46 ⟨hS_, h0_, h1_, h2_, h3_, h4_, h5_, h6_, h7_, h8_, h9_, h10_, h11_, h12_, h13_, h14_, h15_, h16_, h17_, h18_⟩
            have n0_ : Aside0 (Kd.V k34 34 w46 w.heap.size (fun k_ => some k_ ≠ (.slice (some ad297) t280.length co15 : Value).ownBlock ∧ some k_ ≠ (.slice Ao36 t283.length co36 : Value).ownBlock ∧ k_ ≠ gb276 ∧ k_ ≠ gb290 ∧ k_ ≠ gb296 ∧ k_ ≠ gb302) v300 t299) := ⟨h0_⟩
            have n1_ : Aside0 (Kd.R k34 34 w46 w.heap.size (fun k_ => some k_ ≠ (.slice Ao11 t277.length co11 : Value).ownBlock) (.slice (some ad297) t280.length co15) t280) := ⟨h1_⟩
            have n2_ : Aside0 (Kd.R k34 34 w46 w.heap.size (fun k_ => some k_ ≠ (.slice (some ad297) t280.length co15 : Value).ownBlock) (.slice Ao11 t277.length co11) t277) := ⟨h2_⟩
            have n3_ : Aside0 (Kd.V k34 34 w46 w.heap.size (fun k_ => some k_ ≠ (.slice (some ad297) t280.length co15 : Value).ownBlock ∧ some k_ ≠ (.slice Ao36 t283.length co36 : Value).ownBlock ∧ k_ ≠ gb276 ∧ k_ ≠ gb290 ∧ k_ ≠ gb296 ∧ k_ ≠ gb302) (.slice Ao18 t286.length co18) t286) := ⟨h3_⟩
            have n4_ : Aside0 (Kd.V k34 34 w46 w.heap.size (fun k_ => some k_ ≠ (.slice (some ad297) t280.length co15 : Value).ownBlock ∧ some k_ ≠ (.slice Ao36 t283.length co36 : Value).ownBlock ∧ k_ ≠ gb276 ∧ k_ ≠ gb290 ∧ k_ ≠ gb296 ∧ k_ ≠ gb302) (.slice Ao42 x297000_2.length co42) x297000_2) := ⟨h4_⟩
            have n5_ : Aside0 (Kd.R (Kd.int .i64) 3 w46 w.heap.size (fun _ => True) (.slice Ao36 t283.length co36) t283) := ⟨h5_⟩
            have n6_ : Aside0 (w46.heap[gb276]? = some (.cells #[.slice Ao11 t277.length co11] 24 (0, 0))) := ⟨h6_⟩
            have n7_ : Aside0 (w46.heap[gb290]? = some (.cells #[.slice Ao18 t286.length co18] 24 (0, 0))) := ⟨h7_⟩
            have n8_ : Aside0 (w46.heap[gb296]? = some (.cells #[.slice Ao42 x297000_2.length co42] 24 (0, 0))) := ⟨h8_⟩
            have n9_ : Aside0 (w46.heap[gb302]? = some (.cells #[.slice none 0 0] 24 (0, 0))) := ⟨h9_⟩
            have n10_ : Aside0 (w.heap.size ≤ gb302) := ⟨h10_⟩
            have n11_ : Aside0 (w.heap.size ≤ gb302) := ⟨h11_⟩
            have n12_ : Aside0 (gb276 ≠ gb302) := ⟨h12_⟩
            have n13_ : Aside0 (gb302 ≠ gb276) := ⟨h13_⟩
            have n14_ : Aside0 (gb290 ≠ gb302) := ⟨h14_⟩
            have n15_ : Aside0 (gb302 ≠ gb290) := ⟨h15_⟩
            have n16_ : Aside0 (gb296 ≠ gb302) := ⟨h16_⟩
            have n17_ : Aside0 (gb302 ≠ gb296) := ⟨h17_⟩
            have n18_ : Aside0 (Below w.heap.size w w46) := ⟨h18_⟩
            clear HO_1 HO_5 HO_277000 HO_291000 HO_297000 BK276 BK290 BK296 HB h0_ h1_ h2_ h3_ h4_ h5_ h6_ h7_ h8_ h9_ h10_ h11_ h12_ h13_ h14_ h15_ h16_ h17_ h18_
            have HO301 := n0_
            have HO_1 := n1_
            have HO_277000 := n2_
            have HO_291000 := n3_
            have HO_297000 := n4_
            have HO_5 := n5_
            have BK276 := n6_
            have BK290 := n7_
            have BK296 := n8_
            have BK302 := n9_
            have GW302 := n10_
            have GE302 := n11_
            have NB276_302 := n12_
            have NB302_276 := n13_
            have NB290_302 := n14_
            have NB302_290 := n15_
            have NB296_302 := n16_
            have NB302_296 := n17_
            have HB := n18_
            clear n0_ n1_ n2_ n3_ n4_ n5_ n6_ n7_ n8_ n9_ n10_ n11_ n12_ n13_ n14_ n15_ n16_ n17_ n18_
            have hHeld : w46.cell? ⟨gb296, 0, none⟩ = some (.slice Ao42 x297000_2.length co42) ∧ w46.cell? (ad297.add ((x11_2).toNat * 2)) = some (.string ((rd_T34 t280 x11_2).f0)) ∧ w46.cell? ⟨(ad297.add ((x11_2).toNat * 2)).block, (ad297.add ((x11_2).toNat * 2)).off + 1, none⟩ = some (.string ((rd_T34 t280 x11_2).f1)) := hS_
            obtain ⟨Ao47, co47, eo47⟩ := Kd.V_slice HO301.out
            (first | subst eo47 | (injection eo47 with f1_ f2_ f3_; have f4_ := f1_.symm; have f5_ := f3_.symm; clear f1_ f2_ f3_; subst f4_; subst f5_))
            refine norm_ (a' := ?_) ?_ ?_
            rotate_left
            ·simp only [putAll, Act.put, List.setIfInBounds_toArray, List.set_cons_zero, List.set_cons_succ]
             rfl
            refine pure_ (i := 10) (N := some 12) (v := ?_) (a' := ?_) #[true, true, true, true, true, true, true, true, true, true, true, false] rfl rfl (any_of HT_.out (by kernel_rfl)) (fun _ _ _ h => h) (Or.inl ⟨by rfl, ?_⟩) ?_ ?_
            rotate_left
            ·intro w'
             go_simp
             with_reducible rfl
            rotate_left
            ·simp only [Act.put, List.setIfInBounds_toArray, List.set_cons_zero, List.set_cons_succ, i64_w, i32_w]
             rfl
            refine one_ (i := 11) (N := none) #[true, true, true, true, true, true, true, true, true, true, true, true] rfl rfl (one_of HT_.out (by kernel_rfl)) (by decide) (fun K hK => ?_)
            have hs48 : w46.cell? ⟨gb302, 0, none⟩ = some (.slice none 0 0) := (blk_cell BK302.out 0).trans rfl
            have hfs48 := blk_frozen BK302.out 0
            have hns48_0 := NB276_302.out
            have hns48_1 := NB290_302.out
            have hns48_2 := NB296_302.out
            have hms48_0 := NB302_276.out
            have hms48_1 := NB302_290.out
            have hms48_2 := NB302_296.out
            refine skip_ (w1 := ?_) (by rfl) rfl ?_ ?_
            rotate_left
            ·go_simp
             rfl
            refine hK.out _ _ ⟨((cell_far (p := ⟨gb302, _, none⟩) NB296_302.out _).trans (hHeld.1)), ((cell_far (p := ⟨gb302, _, none⟩) (by first | exact Kd.own_blk (Kd.R_ne HO_1.out BK302.out (by decide)) | (rw [add_block]; exact Kd.own_blk (Kd.R_ne HO_1.out BK302.out (by decide))) | (show (Addr.add _ _).block ≠ _; rw [add_block]; exact Kd.own_blk (Kd.R_ne HO_1.out BK302.out (by decide))) | (dsimp only; exact Kd.own_blk (Kd.R_ne HO_1.out BK302.out (by decide)))) _).trans (hHeld.2.1)), ((cell_far (p := ⟨gb302, _, none⟩) (by first | exact Kd.own_blk (Kd.R_ne HO_1.out BK302.out (by decide)) | (rw [add_block]; exact Kd.own_blk (Kd.R_ne HO_1.out BK302.out (by decide))) | (show (Addr.add _ _).block ≠ _; rw [add_block]; exact Kd.own_blk (Kd.R_ne HO_1.out BK302.out (by decide))) | (dsimp only; exact Kd.own_blk (Kd.R_ne HO_1.out BK302.out (by decide)))) _).trans (hHeld.2.2))⟩ (fun hHeld => ?_)
            clear hK K
            refine done_ (done_of HT_.out (by kernel_rfl)) ?_
            have p303 : 0 ≤ (x11_2 : Int) := of_decide_eq_true (by first | (with_reducible assumption) | assumption)
            have q303 : x11_2 < (t283.length : Int) := of_decide_eq_true (by first | (with_reducible assumption) | assumption)
            obtain ⟨ad303, e303, hx303_0⟩ := Kd.at_int (Kd.R_reads' HO_5.out).2.2 x11_2 p303 q303
            cases e303
            have hn303_0 : ad303.block ≠ gb302 := Kd.own_blk (Kd.R_ne HO_5.out BK302.out (by decide))
            replace hx303_0 := (cell_far (p := ⟨gb302, 0, none⟩) (by first | (rw [add_block]; exact hn303_0) | (show (Addr.add _ _).block ≠ _; rw [add_block]; exact hn303_0) | exact hn303_0) (.slice Ao47 t299.length co47)).trans hx303_0
            clear hn303_0
            replace p303 := eq_true p303
            replace q303 := eq_true q303
            have hnb49 := NB302_276.out
            have hnc49 := NB276_302.out
            have hnb50 := NB302_290.out
            have hnc50 := NB290_302.out
            have hnb51 := NB302_296.out
            have hnc51 := NB296_302.out
            have hcz52_0 : w46.cell? ⟨gb302, 0, none⟩ = some (.slice none 0 0) := (blk_cell BK302.out 0).trans rfl
            have hfz52_0 := blk_frozen BK302.out 0
            have hnb53 := NB296_276.out
            have hnc53 := NB276_296.out
            have hnb54 := NB296_290.out
            have hnc54 := NB290_296.out
            have hcz55_0 : w46.cell? ⟨gb296, 0, none⟩ = some (.slice Ao42 x297000_2.length co42) := (blk_cell BK296.out 0).trans rfl
            have hfz55_0 := blk_frozen BK296.out 0
            try go_wp2
            go_roundg k2
            case measure => have := HK1.out; have := HK2.out; omega
            case rel => exact ⟨(wrap64 (x11_2 + 1)), (t299), (.slice Ao47 t299.length co47), (by first | rfl | (simp; done) | (simp [*]; done)), H', ⟨by have := HK1.out; have := HK2.out; omega⟩, ⟨by (with_reducible repeat (first | apply Kd.R_alloc | apply Kd.R_drewN | apply Kd.R_drew)); exact Kd.R_mono (Kd.R_far (p := ⟨gb296, 0, none⟩) (Kd.R_far (p := ⟨gb302, 0, none⟩) (Kd.R_types (Kd.R_types HO_1.out BK302.out (by decide)) BK296.out (by decide)) (fun _ hk => hk.1.2) (.slice Ao47 t299.length co47)) (fun _ hk => hk.2) (.slice Ao47 t299.length co47)) (fun _ hk => hk.1.1)⟩, ⟨by (with_reducible repeat (first | apply Kd.R_alloc | apply Kd.R_drewN | apply Kd.R_drew)); exact Kd.R_mono (Kd.R_far (p := ⟨gb296, 0, none⟩) (Kd.R_far (p := ⟨gb302, 0, none⟩) (Kd.R_types (Kd.R_types HO_5.out BK302.out (by decide)) BK296.out (by decide)) (fun _ hk => hk.1.2) (.slice Ao47 t299.length co47)) (fun _ hk => hk.2) (.slice Ao47 t299.length co47)) (fun _ hk => trivial)⟩, ⟨by (with_reducible repeat (first | apply Kd.R_alloc | apply Kd.R_drewN | apply Kd.R_drew)); exact Kd.R_mono (Kd.R_far (p := ⟨gb296, 0, none⟩) (Kd.R_far (p := ⟨gb302, 0, none⟩) (Kd.R_types (Kd.R_types HO_277000.out BK302.out (by decide)) BK296.out (by decide)) (fun _ hk => hk.1.2) (.slice Ao47 t299.length co47)) (fun _ hk => hk.2) (.slice Ao47 t299.length co47)) (fun _ hk => hk.1.1)⟩, ⟨by (with_reducible repeat (first | apply Kd.V_alloc | apply Kd.V_drewN | apply Kd.V_drew)); exact Kd.V_mono (Kd.V_far (p := ⟨gb296, 0, none⟩) (Kd.V_far (p := ⟨gb302, 0, none⟩) (Kd.V_mono (Kd.V_mono HO_291000.out (fun k_ hk => (⟨hk, hk.2.2.2.2.2⟩ : _ ∧ k_ ≠ gb302))) (fun k_ hk => (⟨hk, hk.1.2.2.2.2.1⟩ : _ ∧ k_ ≠ gb296))) (fun _ hk => hk.1.2) (.slice Ao47 t299.length co47)) (fun _ hk => hk.2) (.slice Ao47 t299.length co47)) (fun _ hk => ⟨hk.1.1.1, ⟨hk.1.1.2.1, ⟨hk.1.1.2.2.1, ⟨hk.1.1.2.2.2.1, hk.1.1.2.2.2.2.1⟩⟩⟩⟩)⟩, ⟨by (with_reducible repeat (first | apply Kd.V_alloc | apply Kd.V_drewN | apply Kd.V_drew)); exact Kd.V_mono (Kd.V_far (p := ⟨gb296, 0, none⟩) (Kd.V_far (p := ⟨gb302, 0, none⟩) (Kd.V_mono (Kd.V_mono HO301.out (fun k_ hk => (⟨hk, hk.2.2.2.2.2⟩ : _ ∧ k_ ≠ gb302))) (fun k_ hk => (⟨hk, hk.1.2.2.2.2.1⟩ : _ ∧ k_ ≠ gb296))) (fun _ hk => hk.1.2) (.slice Ao47 t299.length co47)) (fun _ hk => hk.2) (.slice Ao47 t299.length co47)) (fun _ hk => ⟨hk.1.1.1, ⟨hk.1.1.2.1, ⟨hk.1.1.2.2.1, ⟨hk.1.1.2.2.2.1, hk.1.1.2.2.2.2.1⟩⟩⟩⟩)⟩, ⟨by (with_reducible repeat (first | refine blk_drewN ?_ _ | refine blk_drew ?_ | refine blk_alloc ?_ _)); refine blk_far ?_ NB276_296.out _; (with_reducible repeat (first | refine blk_drewN ?_ _ | refine blk_drew ?_ | refine blk_alloc ?_ _)); refine blk_far ?_ NB276_302.out _; (with_reducible repeat (first | refine blk_drewN ?_ _ | refine blk_drew ?_ | refine blk_alloc ?_ _)); exact BK276.out⟩, ⟨by (with_reducible repeat (first | refine blk_drewN ?_ _ | refine blk_drew ?_ | refine blk_alloc ?_ _)); refine blk_far ?_ NB290_296.out _; (with_reducible repeat (first | refine blk_drewN ?_ _ | refine blk_drew ?_ | refine blk_alloc ?_ _)); refine blk_far ?_ NB290_302.out _; (with_reducible repeat (first | refine blk_drewN ?_ _ | refine blk_drew ?_ | refine blk_alloc ?_ _)); exact BK290.out⟩, ⟨by (with_reducible repeat (first | refine blk_drewN ?_ _ | refine blk_drew ?_ | refine blk_alloc ?_ _)); refine blk_put (cs := #[.slice Ao42 x297000_2.length co42]) ?_ 0 _ rfl; (with_reducible repeat (first | refine blk_drewN ?_ _ | refine blk_drew ?_ | refine blk_alloc ?_ _)); refine blk_far ?_ NB296_302.out _; (with_reducible repeat (first | refine blk_drewN ?_ _ | refine blk_drew ?_ | refine blk_alloc ?_ _)); exact BK296.out⟩, ⟨by repeat (first | (with_reducible first | exact HB.out | apply below_alloc | apply pw_below_drewN | apply below_drew1 | refine below_set ?_ GE276.out | refine below_set ?_ GE290.out | refine below_set ?_ GE296.out | refine below_set ?_ GE302.out) | exact HB.out)⟩⟩
           ·rw [if_neg c41] at H
            have c41b0 : ((rd t283 x11_2) == t298) = false := beq_eq_false_iff_ne.mpr c41
            have c41b1 : ((rd t283 x11_2) != t298) = true := bne_iff_ne.mpr c41
            obtain rfl := Option.some.inj H
            obtain ⟨Ao56, co56, eo56⟩ := Kd.V_slice HO_297000.out
            subst eo56
            try go_wp2
            have n0_ := Aside0.mk (Kd.R_drew HO_1.out)
            have n1_ := Aside0.mk (Kd.R_drew HO_5.out)
            have n2_ := Aside0.mk (Kd.R_drew HO_277000.out)
            have n3_ := Aside0.mk (Kd.V_drew HO_291000.out)
            have n4_ := Aside0.mk (Kd.V_drew HO_297000.out)
            have n5_ := Aside0.mk (blk_drew BK276.out)
            have n6_ := Aside0.mk (blk_drew BK290.out)
            have n7_ := Aside0.mk (blk_drew BK296.out)
            have n8_ := Aside0.mk (below_drew1 HB.out)
            clear HO_1 HO_5 HO_277000 HO_291000 HO_297000 BK276 BK290 BK296 HB
            have HO_1 := n0_
            have HO_5 := n1_
            have HO_277000 := n2_
            have HO_291000 := n3_
            have HO_297000 := n4_
            have BK276 := n5_
            have BK290 := n6_
            have BK296 := n7_
            have HB := n8_
            clear n0_ n1_ n2_ n3_ n4_ n5_ n6_ n7_ n8_
            have p297 : 0 ≤ (x11_2 : Int) := of_decide_eq_true (by first | (with_reducible assumption) | assumption)
            have q297 : x11_2 < (t280.length : Int) := of_decide_eq_true (by first | (with_reducible assumption) | assumption)
            obtain ⟨ad297, e297, hx297_0, hx297_1⟩ := at_T34 (Kd.R_reads' HO_1.out).2.2 x11_2 p297 q297
            cases e297
            replace p297 := eq_true p297
            replace q297 := eq_true q297
            refine start_ (n := 12) (S := fun w' => w'.cell? ⟨gb296, 0, none⟩ = some (.slice Ao56 x297000_2.length co56) ∧ w'.cell? (ad297.add ((x11_2).toNat * 2)) = some (.string ((rd_T34 t280 x11_2).f0)) ∧ w'.cell? ⟨(ad297.add ((x11_2).toNat * 2)).block, (ad297.add ((x11_2).toNat * 2)).off + 1, none⟩ = some (.string ((rd_T34 t280 x11_2).f1))) (ds := []) #[false, false, false, false, false, false, false, false, false, false, false, false] (by kernel_rfl) rfl rfl ⟨(blk_cell BK296.out 0).trans rfl, hx297_0, hx297_1⟩ (fun hHeld => ?_); refine with_tabW graftwoodlaw10_InternAll.tab16 graftwoodlaw10_InternAll.bits16 (fun HT_ HW_ => ?_)
            generalize wr.drew = w57 at HO_1 HO_5 HO_277000 HO_291000 HO_297000 BK276 BK290 BK296 HB hx297_0 hx297_1 hHeld ⊢
            refine pure_ (i := 1) (N := some 72) (v := ?_) (a' := ?_) #[false, true, false, false, false, false, false, false, false, false, false, false] rfl rfl (any_of HT_.out (by kernel_rfl)) (fun _ _ _ h => h) (Or.inl ⟨by rfl, ?_⟩) ?_ ?_
            rotate_left
            ·intro w'
             go_simp
             with_reducible rfl
            rotate_left
            ·simp only [Act.put, List.setIfInBounds_toArray, List.set_cons_zero, List.set_cons_succ, i64_w, i32_w]
             rfl
            refine pure_ (i := 2) (N := some 73) (v := ?_) (a' := ?_) #[false, true, true, false, false, false, false, false, false, false, false, false] rfl rfl (any_of HT_.out (by kernel_rfl)) (fun _ _ _ h => h) (Or.inl ⟨by rfl, ?_⟩) ?_ ?_
            rotate_left
            ·intro w'
             go_simp
             with_reducible rfl
            rotate_left
            ·simp only [Act.put, List.setIfInBounds_toArray, List.set_cons_zero, List.set_cons_succ, i64_w, i32_w]
             rfl
            refine pure_ (i := 3) (N := some 74) (v := ?_) (a' := ?_) #[false, true, true, true, false, false, false, false, false, false, false, false] rfl rfl (any_of HT_.out (by kernel_rfl)) (fun _ _ _ h => h) (Or.inl ⟨by rfl, ?_⟩) ?_ ?_
            rotate_left
            ·intro w'
             go_simp
             with_reducible rfl
            rotate_left
            ·simp only [Act.put, List.setIfInBounds_toArray, List.set_cons_zero, List.set_cons_succ, i64_w, i32_w]
             rfl
            refine take_ (i := 0) (N := some 71) (v := ?_) (a' := ?_) #[true, true, true, true, false, false, false, false, false, false, false, false] rfl rfl (take_ofW HT_.out HW_.out (by kernel_rfl)) (fun _ _ _ h => h) (Or.inl ⟨by rfl, ?_⟩) hHeld ?_ ?_
            rotate_left
            ·rintro w' ⟨s0, s1, s2⟩
             go_simp
             with_reducible rfl
            rotate_left
            ·simp only [Act.put, List.setIfInBounds_toArray, List.set_cons_zero, List.set_cons_succ, i64_w, i32_w]
             rfl
            refine take_ (i := 4) (N := some 75) (v := ?_) (a' := ?_) #[true, true, true, true, true, false, false, false, false, false, false, false] rfl rfl (take_ofW HT_.out HW_.out (by kernel_rfl)) (fun _ _ _ h => h) (Or.inl ⟨by rfl, ?_⟩) hHeld ?_ ?_
            rotate_left
            ·rintro w' ⟨s0, s1, s2⟩
             go_simp
             with_reducible rfl
            rotate_left
            ·simp only [Act.put, List.setIfInBounds_toArray, List.set_cons_zero, List.set_cons_succ, i64_w, i32_w]
             rfl
            refine join_ (σ := Value × Nat) 2 #[true, true, true, true, true, true, true, true, true, true, false, false] (fun s_ => [(76, .tuple #[.int .i64 t298, .agg #[s_.1]]), (13, .pointer (some ⟨s_.2, 0, none⟩)), (70, .tuple #[.int .i64 t298, .agg #[s_.1]]), (77, .int .i64 t298), (78, .agg #[s_.1])]) (fun s_ w' => (w'.cell? ⟨gb296, 0, none⟩ = some (.slice Ao56 x297000_2.length co56) ∧ w'.cell? (ad297.add ((x11_2).toNat * 2)) = some (.string ((rd_T34 t280 x11_2).f0)) ∧ w'.cell? ⟨(ad297.add ((x11_2).toNat * 2)).block, (ad297.add ((x11_2).toNat * 2)).off + 1, none⟩ = some (.string ((rd_T34 t280 x11_2).f1))) ∧ (Kd.V k34 34 w' w.heap.size (fun k_ => some k_ ≠ (.slice (some ad297) t280.length co15 : Value).ownBlock ∧ some k_ ≠ (.slice Ao36 t283.length co36 : Value).ownBlock ∧ k_ ≠ gb276 ∧ k_ ≠ gb290 ∧ k_ ≠ gb296 ∧ k_ ≠ s_.2) s_.1 t299) ∧ (Kd.R k34 34 w' w.heap.size (fun k_ => some k_ ≠ (.slice Ao11 t277.length co11 : Value).ownBlock) (.slice (some ad297) t280.length co15) t280) ∧ (Kd.R k34 34 w' w.heap.size (fun k_ => some k_ ≠ (.slice (some ad297) t280.length co15 : Value).ownBlock) (.slice Ao11 t277.length co11) t277) ∧ (Kd.V k34 34 w' w.heap.size (fun k_ => some k_ ≠ (.slice (some ad297) t280.length co15 : Value).ownBlock ∧ some k_ ≠ (.slice Ao36 t283.length co36 : Value).ownBlock ∧ k_ ≠ gb276 ∧ k_ ≠ gb290 ∧ k_ ≠ gb296 ∧ k_ ≠ s_.2) (.slice Ao18 t286.length co18) t286) ∧ (Kd.V k34 34 w' w.heap.size (fun k_ => some k_ ≠ (.slice (some ad297) t280.length co15 : Value).ownBlock ∧ some k_ ≠ (.slice Ao36 t283.length co36 : Value).ownBlock ∧ k_ ≠ gb276 ∧ k_ ≠ gb290 ∧ k_ ≠ gb296 ∧ k_ ≠ s_.2) (.slice Ao56 x297000_2.length co56) x297000_2) ∧ (Kd.R (Kd.int .i64) 3 w' w.heap.size (fun _ => True) (.slice Ao36 t283.length co36) t283) ∧ (w'.heap[gb276]? = some (.cells #[.slice Ao11 t277.length co11] 24 (0, 0))) ∧ (w'.heap[gb290]? = some (.cells #[.slice Ao18 t286.length co18] 24 (0, 0))) ∧ (w'.heap[gb296]? = some (.cells #[.slice Ao56 x297000_2.length co56] 24 (0, 0))) ∧ (w'.heap[s_.2]? = some (.cells #[.slice none 0 0] 24 (0, 0))) ∧ (w.heap.size ≤ s_.2) ∧ (w.heap.size ≤ s_.2) ∧ (gb276 ≠ s_.2) ∧ (s_.2 ≠ gb276) ∧ (gb290 ≠ s_.2) ∧ (s_.2 ≠ gb290) ∧ (gb296 ≠ s_.2) ∧ (s_.2 ≠ gb296) ∧ (Below w.heap.size w w')) ?_ ?_
            rotate_left
            ·intro hCont
             refine two_ (i := 5) (j := 9) (Ni := some 76) (Nj := some 13) #[true, true, true, true, true, true, false, false, false, false, false, false] #[true, true, true, true, true, false, false, false, false, true, false, false] rfl rfl rfl rfl (two_of HT_.out (by kernel_rfl)) (by decide) (by decide) (fun K hK => ?_) (fun K hK => ?_)
             ·skip
              refine goes_ Tryd.func15 (by kernel_rfl) rfl #[.agg #[.slice Ao56 x297000_2.length co56], .agg #[.string ((rd_T34 t280 x11_2).f0), .string ((rd_T34 t280 x11_2).f1)]] (by rfl) rfl rfl (by (try simp only [List.map_toArray, List.map_cons, List.map_nil]); first | done | rfl | (simp only [List.length_drop, List.length_take]; rfl)) ?_
              with_reducible refine (graftwoodref10_Id.calls k2 (fun k_ => (some k_ ≠ (.slice (some ad297) t280.length co15 : Value).ownBlock ∧ (some k_ ≠ (.slice Ao36 t283.length co36 : Value).ownBlock ∧ (k_ ≠ gb276 ∧ (k_ ≠ gb290 ∧ k_ ≠ gb296))))) _ _ x297000_2 ((rd_T34 t280 x11_2).f0) ((rd_T34 t280 x11_2).f1) t298 t299 _ ?side1 A39.out).mono ?_
              (case side1 => exact HO_297000.out)
              rintro e w58 ⟨v300, rfl, ho0, hb⟩
              have HS1_ := (hb.cell (World.block_lt_of_cell? _ _ (hHeld.2.1))).trans (hHeld.2.1)
              have HS2_ := (hb.cell (World.block_lt_of_cell? _ _ (hHeld.2.2))).trans (hHeld.2.2)
              refine ⟨_, rfl, ?_⟩
              have n0_ := Aside0.mk (Kd.R_below (by (with_reducible repeat (first | apply Kd.R_alloc | apply Kd.R_drewN | apply Kd.R_drew)); exact HO_1.out) hb)
              have n1_ := Aside0.mk (Kd.R_below (by (with_reducible repeat (first | apply Kd.R_alloc | apply Kd.R_drewN | apply Kd.R_drew)); exact HO_5.out) hb)
              have n2_ := Aside0.mk (Kd.R_below (by (with_reducible repeat (first | apply Kd.R_alloc | apply Kd.R_drewN | apply Kd.R_drew)); exact HO_277000.out) hb)
              have n3_ := Aside0.mk (Kd.V_below (by (with_reducible repeat (first | apply Kd.V_alloc | apply Kd.V_drewN | apply Kd.V_drew)); exact HO_291000.out) hb)
              have n4_ := Aside0.mk (Kd.V_below (by (with_reducible repeat (first | apply Kd.V_alloc | apply Kd.V_drewN | apply Kd.V_drew)); exact HO_297000.out) hb)
              have n5_ := Aside0.mk (Kd.V_lower (Kd.V_mono (ok' := fun k_ => some k_ ≠ (.slice (some ad297) t280.length co15 : Value).ownBlock ∧ some k_ ≠ (.slice Ao36 t283.length co36 : Value).ownBlock ∧ k_ ≠ gb276 ∧ k_ ≠ gb290 ∧ k_ ≠ gb296) ho0 (fun k_ hk_ => ⟨Or.elim hk_ (fun hs_ => hs_.1) (fun hn_ => (Kd.fresh' (Kd.R_lt (by (with_reducible repeat (first | apply Kd.R_alloc | apply Kd.R_drewN | apply Kd.R_drew)); exact HO_1.out)) k_ hn_)), Or.elim hk_ (fun hs_ => hs_.2.1) (fun hn_ => (Kd.fresh' (Kd.R_lt (by (with_reducible repeat (first | apply Kd.R_alloc | apply Kd.R_drewN | apply Kd.R_drew)); exact HO_5.out)) k_ hn_)), Or.elim hk_ (fun hs_ => hs_.2.2.1) (fun hn_ => (Kd.freshB (g := gb276) (o := .cells #[.slice Ao11 t277.length co11] 24 (0, 0)) (by (with_reducible repeat (first | refine blk_drewN ?_ _ | refine blk_drew ?_ | refine blk_alloc ?_ _)); exact BK276.out) k_ hn_)), Or.elim hk_ (fun hs_ => hs_.2.2.2.1) (fun hn_ => (Kd.freshB (g := gb290) (o := .cells #[.slice Ao18 t286.length co18] 24 (0, 0)) (by (with_reducible repeat (first | refine blk_drewN ?_ _ | refine blk_drew ?_ | refine blk_alloc ?_ _)); exact BK290.out) k_ hn_)), Or.elim hk_ (fun hs_ => hs_.2.2.2.2) (fun hn_ => (Kd.freshB (g := gb296) (o := .cells #[.slice Ao56 x297000_2.length co56] 24 (0, 0)) (by (with_reducible repeat (first | refine blk_drewN ?_ _ | refine blk_drew ?_ | refine blk_alloc ?_ _)); exact BK296.out) k_ hn_))⟩)) (below_size (by repeat (first | (with_reducible first | exact HB.out | apply below_alloc | apply pw_below_drewN | apply below_drew1 | refine below_set ?_ GE276.out | refine below_set ?_ GE290.out | refine below_set ?_ GE296.out) | exact HB.out))))
              have n6_ := Aside0.mk (blk_below (g := gb276) (o := .cells #[.slice Ao11 t277.length co11] 24 (0, 0)) (by (with_reducible repeat (first | refine blk_drewN ?_ _ | refine blk_drew ?_ | refine blk_alloc ?_ _)); exact BK276.out) hb)
              have n7_ := Aside0.mk (blk_below (g := gb290) (o := .cells #[.slice Ao18 t286.length co18] 24 (0, 0)) (by (with_reducible repeat (first | refine blk_drewN ?_ _ | refine blk_drew ?_ | refine blk_alloc ?_ _)); exact BK290.out) hb)
              have n8_ := Aside0.mk (blk_below (g := gb296) (o := .cells #[.slice Ao56 x297000_2.length co56] 24 (0, 0)) (by (with_reducible repeat (first | refine blk_drewN ?_ _ | refine blk_drew ?_ | refine blk_alloc ?_ _)); exact BK296.out) hb)
              have n9_ := Aside0.mk (below_step (by repeat (first | (with_reducible first | exact HB.out | apply below_alloc | apply pw_below_drewN | apply below_drew1 | refine below_set ?_ GE276.out | refine below_set ?_ GE290.out | refine below_set ?_ GE296.out) | exact HB.out)) hb)
              clear HO_1 HO_5 HO_277000 HO_291000 HO_297000 BK276 BK290 BK296 HB
              have HO_1 := n0_
              have HO_5 := n1_
              have HO_277000 := n2_
              have HO_291000 := n3_
              have HO_297000 := n4_
              have HO301 := n5_
              have BK276 := n6_
              have BK290 := n7_
              have BK296 := n8_
              have HB := n9_
              clear n0_ n1_ n2_ n3_ n4_ n5_ n6_ n7_ n8_ n9_
              (try clear hb)
              (try clear hb2)
              (try clear hk)
              (try clear hi)
              (try clear ho0)
              refine hK.out _ _ ⟨(blk_cell BK296.out 0).trans rfl, HS1_, HS2_⟩ (fun hHeld => ?_)
              clear hK K
              refine norm_ (a' := ?_) ?_ ?_
              rotate_left
              ·show Act.put _ (some 76) _ = _
               simp only [Act.put, List.setIfInBounds_toArray, List.set_cons_zero, List.set_cons_succ, i64_w, i32_w]
               rfl
              refine pure_ (i := 6) (N := some 70) (v := ?_) (a' := ?_) #[true, true, true, true, true, true, true, false, false, false, false, false] rfl rfl (any_of HT_.out (by kernel_rfl)) (fun _ _ _ h => h) (Or.inl ⟨by rfl, ?_⟩) ?_ ?_
              rotate_left
              ·intro w'
               go_simp
               with_reducible rfl
              rotate_left
              ·simp only [Act.put, List.setIfInBounds_toArray, List.set_cons_zero, List.set_cons_succ, i64_w, i32_w]
               rfl
              refine pure_ (i := 7) (N := some 77) (v := ?_) (a' := ?_) #[true, true, true, true, true, true, true, true, false, false, false, false] rfl rfl (any_of HT_.out (by kernel_rfl)) (fun _ _ _ h => h) (Or.inl ⟨by rfl, ?_⟩) ?_ ?_
              rotate_left
              ·intro w'
               go_simp
               with_reducible rfl
              rotate_left
              ·simp only [Act.put, List.setIfInBounds_toArray, List.set_cons_zero, List.set_cons_succ, i64_w, i32_w]
               rfl
              refine pure_ (i := 8) (N := some 78) (v := ?_) (a' := ?_) #[true, true, true, true, true, true, true, true, true, false, false, false] rfl rfl (any_of HT_.out (by kernel_rfl)) (fun _ _ _ h => h) (Or.inl ⟨by rfl, ?_⟩) ?_ ?_
              rotate_left
              ·intro w'
               go_simp
               with_reducible rfl
              rotate_left
              ·simp only [Act.put, List.setIfInBounds_toArray, List.set_cons_zero, List.set_cons_succ, i64_w, i32_w]
               rfl
              refine one_ (i := 9) (N := some 13) #[true, true, true, true, true, true, true, true, true, true, false, false] rfl rfl (one_of HT_.out (by kernel_rfl)) (by decide) (fun K hK => ?_)
              refine box_step ?hg (N := 13) ?hd (cs := #[.slice none 0 0]) (t := 24) ?hr ?_; (case hd => rfl); (case hg => rfl); (case hr => first | (go_simp; done) | (go_simp; rfl))
              intro gb302 hg w59 hbox hb
              have HS1_ := (hb.cell (World.block_lt_of_cell? _ _ (hHeld.2.1))).trans (hHeld.2.1)
              have HS2_ := (hb.cell (World.block_lt_of_cell? _ _ (hHeld.2.2))).trans (hHeld.2.2)
              have n0_ := Aside0.mk (Kd.R_below (by (with_reducible repeat (first | apply Kd.R_alloc | apply Kd.R_drewN | apply Kd.R_drew)); exact HO_1.out) hb)
              have n1_ := Aside0.mk (Kd.R_below (by (with_reducible repeat (first | apply Kd.R_alloc | apply Kd.R_drewN | apply Kd.R_drew)); exact HO_5.out) hb)
              have n2_ := Aside0.mk (Kd.R_below (by (with_reducible repeat (first | apply Kd.R_alloc | apply Kd.R_drewN | apply Kd.R_drew)); exact HO_277000.out) hb)
              have n3_ := Aside0.mk (Kd.V_below (Kd.V_elderB (by (with_reducible repeat (first | apply Kd.V_alloc | apply Kd.V_drewN | apply Kd.V_drew)); exact HO_291000.out) gb302 (Nat.le_of_eq hg.symm)) hb)
              have n4_ := Aside0.mk (Kd.V_below (Kd.V_elderB (by (with_reducible repeat (first | apply Kd.V_alloc | apply Kd.V_drewN | apply Kd.V_drew)); exact HO_297000.out) gb302 (Nat.le_of_eq hg.symm)) hb)
              have n5_ := Aside0.mk (Kd.V_below (Kd.V_elderB (by (with_reducible repeat (first | apply Kd.V_alloc | apply Kd.V_drewN | apply Kd.V_drew)); exact HO301.out) gb302 (Nat.le_of_eq hg.symm)) hb)
              have n6_ := Aside0.mk (blk_below (g := gb276) (o := .cells #[.slice Ao11 t277.length co11] 24 (0, 0)) (by (with_reducible repeat (first | refine blk_drewN ?_ _ | refine blk_drew ?_ | refine blk_alloc ?_ _)); exact BK276.out) hb)
              have n7_ := Aside0.mk (blk_below (g := gb290) (o := .cells #[.slice Ao18 t286.length co18] 24 (0, 0)) (by (with_reducible repeat (first | refine blk_drewN ?_ _ | refine blk_drew ?_ | refine blk_alloc ?_ _)); exact BK290.out) hb)
              have n8_ := Aside0.mk (blk_below (g := gb296) (o := .cells #[.slice Ao56 x297000_2.length co56] 24 (0, 0)) (by (with_reducible repeat (first | refine blk_drewN ?_ _ | refine blk_drew ?_ | refine blk_alloc ?_ _)); exact BK296.out) hb)
              have n9_ := Aside0.mk (below_step (by repeat (first | (with_reducible first | exact HB.out | apply below_alloc | apply pw_below_drewN | apply below_drew1 | refine below_set ?_ GE276.out | refine below_set ?_ GE290.out | refine below_set ?_ GE296.out) | exact HB.out)) hb)
              have n10_ := Aside0.mk (hbox)
              have n11_ := Aside0.mk ((by rw [hg]; exact (below_size (by repeat (first | (with_reducible first | exact HB.out | apply below_alloc | apply pw_below_drewN | apply below_drew1 | refine below_set ?_ GE276.out | refine below_set ?_ GE290.out | refine below_set ?_ GE296.out) | exact HB.out))) : w.heap.size ≤ gb302))
              have n12_ := Aside0.mk ((by rw [hg]; exact (below_size (by repeat (first | (with_reducible first | exact HB.out | apply below_alloc | apply pw_below_drewN | apply below_drew1 | refine below_set ?_ GE276.out | refine below_set ?_ GE290.out | refine below_set ?_ GE296.out) | exact HB.out))) : w.heap.size ≤ gb302))
              have n13_ := Aside0.mk ((by rw [hg]; exact Nat.ne_of_lt (blk_lt (g := gb276) (o := .cells #[.slice Ao11 t277.length co11] 24 (0, 0)) (by (with_reducible repeat (first | refine blk_drewN ?_ _ | refine blk_drew ?_ | refine blk_alloc ?_ _)); exact BK276.out)) : gb276 ≠ gb302))
              have n14_ := Aside0.mk ((by rw [hg]; exact Nat.ne_of_gt (blk_lt (g := gb276) (o := .cells #[.slice Ao11 t277.length co11] 24 (0, 0)) (by (with_reducible repeat (first | refine blk_drewN ?_ _ | refine blk_drew ?_ | refine blk_alloc ?_ _)); exact BK276.out)) : gb302 ≠ gb276))
              have n15_ := Aside0.mk ((by rw [hg]; exact Nat.ne_of_lt (blk_lt (g := gb290) (o := .cells #[.slice Ao18 t286.length co18] 24 (0, 0)) (by (with_reducible repeat (first | refine blk_drewN ?_ _ | refine blk_drew ?_ | refine blk_alloc ?_ _)); exact BK290.out)) : gb290 ≠ gb302))
              have n16_ := Aside0.mk ((by rw [hg]; exact Nat.ne_of_gt (blk_lt (g := gb290) (o := .cells #[.slice Ao18 t286.length co18] 24 (0, 0)) (by (with_reducible repeat (first | refine blk_drewN ?_ _ | refine blk_drew ?_ | refine blk_alloc ?_ _)); exact BK290.out)) : gb302 ≠ gb290))
              have n17_ := Aside0.mk ((by rw [hg]; exact Nat.ne_of_lt (blk_lt (g := gb296) (o := .cells #[.slice Ao56 x297000_2.length co56] 24 (0, 0)) (by (with_reducible repeat (first | refine blk_drewN ?_ _ | refine blk_drew ?_ | refine blk_alloc ?_ _)); exact BK296.out)) : gb296 ≠ gb302))
              have n18_ := Aside0.mk ((by rw [hg]; exact Nat.ne_of_gt (blk_lt (g := gb296) (o := .cells #[.slice Ao56 x297000_2.length co56] 24 (0, 0)) (by (with_reducible repeat (first | refine blk_drewN ?_ _ | refine blk_drew ?_ | refine blk_alloc ?_ _)); exact BK296.out)) : gb302 ≠ gb296))
              clear HO_1 HO_5 HO_277000 HO_291000 HO_297000 HO301 BK276 BK290 BK296 HB
              have HO_1 := n0_
              have HO_5 := n1_
              have HO_277000 := n2_
              have HO_291000 := n3_
              have HO_297000 := n4_
              have HO301 := n5_
              have BK276 := n6_
              have BK290 := n7_
              have BK296 := n8_
              have HB := n9_
              have BK302 := n10_
              have GW302 := n11_
              have GE302 := n12_
              have NB276_302 := n13_
              have NB302_276 := n14_
              have NB290_302 := n15_
              have NB302_290 := n16_
              have NB296_302 := n17_
              have NB302_296 := n18_
              clear n0_ n1_ n2_ n3_ n4_ n5_ n6_ n7_ n8_ n9_ n10_ n11_ n12_ n13_ n14_ n15_ n16_ n17_ n18_ hb hbox hg
              refine hK.out _ _ ⟨(blk_cell BK296.out 0).trans rfl, HS1_, HS2_⟩ (fun hHeld => ?_)
              clear hK K
              refine norm_ (a' := ?_) ?_ ?_
              rotate_left
              ·show Act.put _ (some 13) _ = _
               simp only [Act.put, List.setIfInBounds_toArray, List.set_cons_zero, List.set_cons_succ, i64_w, i32_w]
               rfl
              exact norm_ (by simp only [putAll, Act.put, List.setIfInBounds_toArray, List.set_cons_zero, List.set_cons_succ]) (hCont (v300, gb302) _ ⟨hHeld, (by (with_reducible repeat (first | apply Kd.V_alloc | apply Kd.V_drewN | apply Kd.V_drew)); exact Kd.V_mono HO301.out (fun _ hk => ⟨hk.1.1, ⟨hk.1.2.1, ⟨hk.1.2.2.1, ⟨hk.1.2.2.2.1, ⟨hk.1.2.2.2.2, hk.2⟩⟩⟩⟩⟩)), (by (with_reducible repeat (first | apply Kd.R_alloc | apply Kd.R_drewN | apply Kd.R_drew)); exact HO_1.out), (by (with_reducible repeat (first | apply Kd.R_alloc | apply Kd.R_drewN | apply Kd.R_drew)); exact HO_277000.out), (by (with_reducible repeat (first | apply Kd.V_alloc | apply Kd.V_drewN | apply Kd.V_drew)); exact Kd.V_mono HO_291000.out (fun _ hk => ⟨hk.1.1, ⟨hk.1.2.1, ⟨hk.1.2.2.1, ⟨hk.1.2.2.2.1, ⟨hk.1.2.2.2.2, hk.2⟩⟩⟩⟩⟩)), (by (with_reducible repeat (first | apply Kd.V_alloc | apply Kd.V_drewN | apply Kd.V_drew)); exact Kd.V_mono HO_297000.out (fun _ hk => ⟨hk.1.1, ⟨hk.1.2.1, ⟨hk.1.2.2.1, ⟨hk.1.2.2.2.1, ⟨hk.1.2.2.2.2, hk.2⟩⟩⟩⟩⟩)), (by (with_reducible repeat (first | apply Kd.R_alloc | apply Kd.R_drewN | apply Kd.R_drew)); exact HO_5.out), (by (with_reducible repeat (first | refine blk_drewN ?_ _ | refine blk_drew ?_ | refine blk_alloc ?_ _)); exact BK276.out), (by (with_reducible repeat (first | refine blk_drewN ?_ _ | refine blk_drew ?_ | refine blk_alloc ?_ _)); exact BK290.out), (by (with_reducible repeat (first | refine blk_drewN ?_ _ | refine blk_drew ?_ | refine blk_alloc ?_ _)); exact BK296.out), (by (with_reducible repeat (first | refine blk_drewN ?_ _ | refine blk_drew ?_ | refine blk_alloc ?_ _)); exact BK302.out), GW302.out, GE302.out, NB276_302.out, NB302_276.out, NB290_302.out, NB302_290.out, NB296_302.out, NB302_296.out, (by repeat (first | (with_reducible first | exact HB.out | apply below_alloc | apply pw_below_drewN | apply below_drew1 | refine below_set ?_ GE276.out | refine below_set ?_ GE290.out | refine below_set ?_ GE296.out | refine below_set ?_ GE302.out) | exact HB.out))⟩)
             ·skip
              refine box_step ?hg (N := 13) ?hd (cs := #[.slice none 0 0]) (t := 24) ?hr ?_; (case hd => rfl); (case hg => rfl); (case hr => first | (go_simp; done) | (go_simp; rfl))
              intro gb302 hg w58 hbox hb
              have HS1_ := (hb.cell (World.block_lt_of_cell? _ _ (hHeld.2.1))).trans (hHeld.2.1)
              have HS2_ := (hb.cell (World.block_lt_of_cell? _ _ (hHeld.2.2))).trans (hHeld.2.2)
              have n0_ := Aside0.mk (Kd.R_below (by (with_reducible repeat (first | apply Kd.R_alloc | apply Kd.R_drewN | apply Kd.R_drew)); exact HO_1.out) hb)
              have n1_ := Aside0.mk (Kd.R_below (by (with_reducible repeat (first | apply Kd.R_alloc | apply Kd.R_drewN | apply Kd.R_drew)); exact HO_5.out) hb)
              have n2_ := Aside0.mk (Kd.R_below (by (with_reducible repeat (first | apply Kd.R_alloc | apply Kd.R_drewN | apply Kd.R_drew)); exact HO_277000.out) hb)
              have n3_ := Aside0.mk (Kd.V_below (Kd.V_elderB (by (with_reducible repeat (first | apply Kd.V_alloc | apply Kd.V_drewN | apply Kd.V_drew)); exact HO_291000.out) gb302 (Nat.le_of_eq hg.symm)) hb)
              have n4_ := Aside0.mk (Kd.V_below (Kd.V_elderB (by (with_reducible repeat (first | apply Kd.V_alloc | apply Kd.V_drewN | apply Kd.V_drew)); exact HO_297000.out) gb302 (Nat.le_of_eq hg.symm)) hb)
              have n5_ := Aside0.mk (blk_below (g := gb276) (o := .cells #[.slice Ao11 t277.length co11] 24 (0, 0)) (by (with_reducible repeat (first | refine blk_drewN ?_ _ | refine blk_drew ?_ | refine blk_alloc ?_ _)); exact BK276.out) hb)
              have n6_ := Aside0.mk (blk_below (g := gb290) (o := .cells #[.slice Ao18 t286.length co18] 24 (0, 0)) (by (with_reducible repeat (first | refine blk_drewN ?_ _ | refine blk_drew ?_ | refine blk_alloc ?_ _)); exact BK290.out) hb)
              have n7_ := Aside0.mk (blk_below (g := gb296) (o := .cells #[.slice Ao56 x297000_2.length co56] 24 (0, 0)) (by (with_reducible repeat (first | refine blk_drewN ?_ _ | refine blk_drew ?_ | refine blk_alloc ?_ _)); exact BK296.out) hb)
              have n8_ := Aside0.mk (below_step (by repeat (first | (with_reducible first | exact HB.out | apply below_alloc | apply pw_below_drewN | apply below_drew1 | refine below_set ?_ GE276.out | refine below_set ?_ GE290.out | refine below_set ?_ GE296.out) | exact HB.out)) hb)
              have n9_ := Aside0.mk (hbox)
              have n10_ := Aside0.mk ((by rw [hg]; exact (below_size (by repeat (first | (with_reducible first | exact HB.out | apply below_alloc | apply pw_below_drewN | apply below_drew1 | refine below_set ?_ GE276.out | refine below_set ?_ GE290.out | refine below_set ?_ GE296.out) | exact HB.out))) : w.heap.size ≤ gb302))
              have n11_ := Aside0.mk ((by rw [hg]; exact (below_size (by repeat (first | (with_reducible first | exact HB.out | apply below_alloc | apply pw_below_drewN | apply below_drew1 | refine below_set ?_ GE276.out | refine below_set ?_ GE290.out | refine below_set ?_ GE296.out) | exact HB.out))) : w.heap.size ≤ gb302))
              have n12_ := Aside0.mk ((by rw [hg]; exact Nat.ne_of_lt (blk_lt (g := gb276) (o := .cells #[.slice Ao11 t277.length co11] 24 (0, 0)) (by (with_reducible repeat (first | refine blk_drewN ?_ _ | refine blk_drew ?_ | refine blk_alloc ?_ _)); exact BK276.out)) : gb276 ≠ gb302))
              have n13_ := Aside0.mk ((by rw [hg]; exact Nat.ne_of_gt (blk_lt (g := gb276) (o := .cells #[.slice Ao11 t277.length co11] 24 (0, 0)) (by (with_reducible repeat (first | refine blk_drewN ?_ _ | refine blk_drew ?_ | refine blk_alloc ?_ _)); exact BK276.out)) : gb302 ≠ gb276))
              have n14_ := Aside0.mk ((by rw [hg]; exact Nat.ne_of_lt (blk_lt (g := gb290) (o := .cells #[.slice Ao18 t286.length co18] 24 (0, 0)) (by (with_reducible repeat (first | refine blk_drewN ?_ _ | refine blk_drew ?_ | refine blk_alloc ?_ _)); exact BK290.out)) : gb290 ≠ gb302))
              have n15_ := Aside0.mk ((by rw [hg]; exact Nat.ne_of_gt (blk_lt (g := gb290) (o := .cells #[.slice Ao18 t286.length co18] 24 (0, 0)) (by (with_reducible repeat (first | refine blk_drewN ?_ _ | refine blk_drew ?_ | refine blk_alloc ?_ _)); exact BK290.out)) : gb302 ≠ gb290))
              have n16_ := Aside0.mk ((by rw [hg]; exact Nat.ne_of_lt (blk_lt (g := gb296) (o := .cells #[.slice Ao56 x297000_2.length co56] 24 (0, 0)) (by (with_reducible repeat (first | refine blk_drewN ?_ _ | refine blk_drew ?_ | refine blk_alloc ?_ _)); exact BK296.out)) : gb296 ≠ gb302))
              have n17_ := Aside0.mk ((by rw [hg]; exact Nat.ne_of_gt (blk_lt (g := gb296) (o := .cells #[.slice Ao56 x297000_2.length co56] 24 (0, 0)) (by (with_reducible repeat (first | refine blk_drewN ?_ _ | refine blk_drew ?_ | refine blk_alloc ?_ _)); exact BK296.out)) : gb302 ≠ gb296))
              clear HO_1 HO_5 HO_277000 HO_291000 HO_297000 BK276 BK290 BK296 HB
              have HO_1 := n0_
              have HO_5 := n1_
              have HO_277000 := n2_
              have HO_291000 := n3_
              have HO_297000 := n4_
              have BK276 := n5_
              have BK290 := n6_
              have BK296 := n7_
              have HB := n8_
              have BK302 := n9_
              have GW302 := n10_
              have GE302 := n11_
              have NB276_302 := n12_
              have NB302_276 := n13_
              have NB290_302 := n14_
              have NB302_290 := n15_
              have NB296_302 := n16_
              have NB302_296 := n17_
              clear n0_ n1_ n2_ n3_ n4_ n5_ n6_ n7_ n8_ n9_ n10_ n11_ n12_ n13_ n14_ n15_ n16_ n17_ hb hbox hg
              refine hK.out _ _ ⟨(blk_cell BK296.out 0).trans rfl, HS1_, HS2_⟩ (fun hHeld => ?_)
              clear hK K
              refine norm_ (a' := ?_) ?_ ?_
              rotate_left
              ·show Act.put _ (some 13) _ = _
               simp only [Act.put, List.setIfInBounds_toArray, List.set_cons_zero, List.set_cons_succ, i64_w, i32_w]
               rfl
              refine one_ (i := 5) (N := some 76) #[true, true, true, true, true, true, false, false, false, true, false, false] rfl rfl (one_of HT_.out (by kernel_rfl)) (by decide) (fun K hK => ?_)
              refine goes_ Tryd.func15 (by kernel_rfl) rfl #[.agg #[.slice Ao56 x297000_2.length co56], .agg #[.string ((rd_T34 t280 x11_2).f0), .string ((rd_T34 t280 x11_2).f1)]] (by rfl) rfl rfl (by (try simp only [List.map_toArray, List.map_cons, List.map_nil]); first | done | rfl | (simp only [List.length_drop, List.length_take]; rfl)) ?_
              with_reducible refine (graftwoodref10_Id.calls k2 (fun k_ => ((some k_ ≠ (.slice (some ad297) t280.length co15 : Value).ownBlock ∧ (some k_ ≠ (.slice Ao36 t283.length co36 : Value).ownBlock ∧ (k_ ≠ gb276 ∧ (k_ ≠ gb290 ∧ k_ ≠ gb296)))) ∧ k_ ≠ gb302)) _ _ x297000_2 ((rd_T34 t280 x11_2).f0) ((rd_T34 t280 x11_2).f1) t298 t299 _ ?side1 A39.out).mono ?_
              (case side1 => exact HO_297000.out)
              rintro e w59 ⟨v300, rfl, ho0, hb⟩
              have HS1_ := (hb.cell (World.block_lt_of_cell? _ _ (hHeld.2.1))).trans (hHeld.2.1)
              have HS2_ := (hb.cell (World.block_lt_of_cell? _ _ (hHeld.2.2))).trans (hHeld.2.2)
              refine ⟨_, rfl, ?_⟩
              have n0_ := Aside0.mk (Kd.R_below (by (with_reducible repeat (first | apply Kd.R_alloc | apply Kd.R_drewN | apply Kd.R_drew)); exact HO_1.out) hb)
              have n1_ := Aside0.mk (Kd.R_below (by (with_reducible repeat (first | apply Kd.R_alloc | apply Kd.R_drewN | apply Kd.R_drew)); exact HO_5.out) hb)
              have n2_ := Aside0.mk (Kd.R_below (by (with_reducible repeat (first | apply Kd.R_alloc | apply Kd.R_drewN | apply Kd.R_drew)); exact HO_277000.out) hb)
              have n3_ := Aside0.mk (Kd.V_below (by (with_reducible repeat (first | apply Kd.V_alloc | apply Kd.V_drewN | apply Kd.V_drew)); exact HO_291000.out) hb)
              have n4_ := Aside0.mk (Kd.V_below (by (with_reducible repeat (first | apply Kd.V_alloc | apply Kd.V_drewN | apply Kd.V_drew)); exact HO_297000.out) hb)
              have n5_ := Aside0.mk (Kd.V_lower (Kd.V_mono (ok' := fun k_ => some k_ ≠ (.slice (some ad297) t280.length co15 : Value).ownBlock ∧ some k_ ≠ (.slice Ao36 t283.length co36 : Value).ownBlock ∧ k_ ≠ gb276 ∧ k_ ≠ gb290 ∧ k_ ≠ gb296 ∧ k_ ≠ gb302) ho0 (fun k_ hk_ => ⟨Or.elim hk_ (fun hs_ => hs_.1.1) (fun hn_ => (Kd.fresh' (Kd.R_lt (by (with_reducible repeat (first | apply Kd.R_alloc | apply Kd.R_drewN | apply Kd.R_drew)); exact HO_1.out)) k_ hn_)), Or.elim hk_ (fun hs_ => hs_.1.2.1) (fun hn_ => (Kd.fresh' (Kd.R_lt (by (with_reducible repeat (first | apply Kd.R_alloc | apply Kd.R_drewN | apply Kd.R_drew)); exact HO_5.out)) k_ hn_)), Or.elim hk_ (fun hs_ => hs_.1.2.2.1) (fun hn_ => (Kd.freshB (g := gb276) (o := .cells #[.slice Ao11 t277.length co11] 24 (0, 0)) (by (with_reducible repeat (first | refine blk_drewN ?_ _ | refine blk_drew ?_ | refine blk_alloc ?_ _)); exact BK276.out) k_ hn_)), Or.elim hk_ (fun hs_ => hs_.1.2.2.2.1) (fun hn_ => (Kd.freshB (g := gb290) (o := .cells #[.slice Ao18 t286.length co18] 24 (0, 0)) (by (with_reducible repeat (first | refine blk_drewN ?_ _ | refine blk_drew ?_ | refine blk_alloc ?_ _)); exact BK290.out) k_ hn_)), Or.elim hk_ (fun hs_ => hs_.1.2.2.2.2) (fun hn_ => (Kd.freshB (g := gb296) (o := .cells #[.slice Ao56 x297000_2.length co56] 24 (0, 0)) (by (with_reducible repeat (first | refine blk_drewN ?_ _ | refine blk_drew ?_ | refine blk_alloc ?_ _)); exact BK296.out) k_ hn_)), Or.elim hk_ (fun hs_ => hs_.2) (fun hn_ => (Kd.freshB (g := gb302) (o := .cells #[.slice none 0 0] 24 (0, 0)) (by (with_reducible repeat (first | refine blk_drewN ?_ _ | refine blk_drew ?_ | refine blk_alloc ?_ _)); exact BK302.out) k_ hn_))⟩)) (below_size (by repeat (first | (with_reducible first | exact HB.out | apply below_alloc | apply pw_below_drewN | apply below_drew1 | refine below_set ?_ GE276.out | refine below_set ?_ GE290.out | refine below_set ?_ GE296.out | refine below_set ?_ GE302.out) | exact HB.out))))
              have n6_ := Aside0.mk (blk_below (g := gb276) (o := .cells #[.slice Ao11 t277.length co11] 24 (0, 0)) (by (with_reducible repeat (first | refine blk_drewN ?_ _ | refine blk_drew ?_ | refine blk_alloc ?_ _)); exact BK276.out) hb)
              have n7_ := Aside0.mk (blk_below (g := gb290) (o := .cells #[.slice Ao18 t286.length co18] 24 (0, 0)) (by (with_reducible repeat (first | refine blk_drewN ?_ _ | refine blk_drew ?_ | refine blk_alloc ?_ _)); exact BK290.out) hb)
              have n8_ := Aside0.mk (blk_below (g := gb296) (o := .cells #[.slice Ao56 x297000_2.length co56] 24 (0, 0)) (by (with_reducible repeat (first | refine blk_drewN ?_ _ | refine blk_drew ?_ | refine blk_alloc ?_ _)); exact BK296.out) hb)
              have n9_ := Aside0.mk (blk_below (g := gb302) (o := .cells #[.slice none 0 0] 24 (0, 0)) (by (with_reducible repeat (first | refine blk_drewN ?_ _ | refine blk_drew ?_ | refine blk_alloc ?_ _)); exact BK302.out) hb)
              have n10_ := Aside0.mk (below_step (by repeat (first | (with_reducible first | exact HB.out | apply below_alloc | apply pw_below_drewN | apply below_drew1 | refine below_set ?_ GE276.out | refine below_set ?_ GE290.out | refine below_set ?_ GE296.out | refine below_set ?_ GE302.out) | exact HB.out)) hb)
              clear HO_1 HO_5 HO_277000 HO_291000 HO_297000 BK276 BK290 BK296 BK302 HB
              have HO_1 := n0_
              have HO_5 := n1_
              have HO_277000 := n2_
              have HO_291000 := n3_
              have HO_297000 := n4_
              have HO301 := n5_
              have BK276 := n6_
              have BK290 := n7_
              have BK296 := n8_
              have BK302 := n9_
              have HB := n10_
              clear n0_ n1_ n2_ n3_ n4_ n5_ n6_ n7_ n8_ n9_ n10_
              (try clear hb)
              (try clear hb2)
              (try clear hk)
              (try clear hi)
              (try clear ho0)
              refine hK.out _ _ ⟨(blk_cell BK296.out 0).trans rfl, HS1_, HS2_⟩ (fun hHeld => ?_)
              clear hK K
              refine norm_ (a' := ?_) ?_ ?_
              rotate_left
              ·show Act.put _ (some 76) _ = _
               simp only [Act.put, List.setIfInBounds_toArray, List.set_cons_zero, List.set_cons_succ, i64_w, i32_w]
               rfl
              refine pure_ (i := 6) (N := some 70) (v := ?_) (a' := ?_) #[true, true, true, true, true, true, true, false, false, true, false, false] rfl rfl (any_of HT_.out (by kernel_rfl)) (fun _ _ _ h => h) (Or.inl ⟨by rfl, ?_⟩) ?_ ?_
              rotate_left
              ·intro w'
               go_simp
               with_reducible rfl
              rotate_left
              ·simp only [Act.put, List.setIfInBounds_toArray, List.set_cons_zero, List.set_cons_succ, i64_w, i32_w]
               rfl
              refine pure_ (i := 7) (N := some 77) (v := ?_) (a' := ?_) #[true, true, true, true, true, true, true, true, false, true, false, false] rfl rfl (any_of HT_.out (by kernel_rfl)) (fun _ _ _ h => h) (Or.inl ⟨by rfl, ?_⟩) ?_ ?_
              rotate_left
              ·intro w'
               go_simp
               with_reducible rfl
              rotate_left
              ·simp only [Act.put, List.setIfInBounds_toArray, List.set_cons_zero, List.set_cons_succ, i64_w, i32_w]
               rfl
              refine pure_ (i := 8) (N := some 78) (v := ?_) (a' := ?_) #[true, true, true, true, true, true, true, true, true, true, false, false] rfl rfl (any_of HT_.out (by kernel_rfl)) (fun _ _ _ h => h) (Or.inl ⟨by rfl, ?_⟩) ?_ ?_
              rotate_left
              ·intro w'
               go_simp
               with_reducible rfl
              rotate_left
              ·simp only [Act.put, List.setIfInBounds_toArray, List.set_cons_zero, List.set_cons_succ, i64_w, i32_w]
               rfl
              exact norm_ (by simp only [putAll, Act.put, List.setIfInBounds_toArray, List.set_cons_zero, List.set_cons_succ]) (hCont (v300, gb302) _ ⟨hHeld, (by (with_reducible repeat (first | apply Kd.V_alloc | apply Kd.V_drewN | apply Kd.V_drew)); exact HO301.out), (by (with_reducible repeat (first | apply Kd.R_alloc | apply Kd.R_drewN | apply Kd.R_drew)); exact HO_1.out), (by (with_reducible repeat (first | apply Kd.R_alloc | apply Kd.R_drewN | apply Kd.R_drew)); exact HO_277000.out), (by (with_reducible repeat (first | apply Kd.V_alloc | apply Kd.V_drewN | apply Kd.V_drew)); exact Kd.V_mono HO_291000.out (fun _ hk => ⟨hk.1.1, ⟨hk.1.2.1, ⟨hk.1.2.2.1, ⟨hk.1.2.2.2.1, ⟨hk.1.2.2.2.2, hk.2⟩⟩⟩⟩⟩)), (by (with_reducible repeat (first | apply Kd.V_alloc | apply Kd.V_drewN | apply Kd.V_drew)); exact Kd.V_mono HO_297000.out (fun _ hk => ⟨hk.1.1, ⟨hk.1.2.1, ⟨hk.1.2.2.1, ⟨hk.1.2.2.2.1, ⟨hk.1.2.2.2.2, hk.2⟩⟩⟩⟩⟩)), (by (with_reducible repeat (first | apply Kd.R_alloc | apply Kd.R_drewN | apply Kd.R_drew)); exact HO_5.out), (by (with_reducible repeat (first | refine blk_drewN ?_ _ | refine blk_drew ?_ | refine blk_alloc ?_ _)); exact BK276.out), (by (with_reducible repeat (first | refine blk_drewN ?_ _ | refine blk_drew ?_ | refine blk_alloc ?_ _)); exact BK290.out), (by (with_reducible repeat (first | refine blk_drewN ?_ _ | refine blk_drew ?_ | refine blk_alloc ?_ _)); exact BK296.out), (by (with_reducible repeat (first | refine blk_drewN ?_ _ | refine blk_drew ?_ | refine blk_alloc ?_ _)); exact BK302.out), GW302.out, GE302.out, NB276_302.out, NB302_276.out, NB290_302.out, NB302_290.out, NB296_302.out, NB302_296.out, (by repeat (first | (with_reducible first | exact HB.out | apply below_alloc | apply pw_below_drewN | apply below_drew1 | refine below_set ?_ GE276.out | refine below_set ?_ GE290.out | refine below_set ?_ GE296.out | refine below_set ?_ GE302.out) | exact HB.out))⟩)
            rintro ⟨v300, gb302⟩ w60 ⟨hS_, h0_, h1_, h2_, h3_, h4_, h5_, h6_, h7_, h8_, h9_, h10_, h11_, h12_, h13_, h14_, h15_, h16_, h17_, h18_⟩
            have n0_ : Aside0 (Kd.V k34 34 w60 w.heap.size (fun k_ => some k_ ≠ (.slice (some ad297) t280.length co15 : Value).ownBlock ∧ some k_ ≠ (.slice Ao36 t283.length co36 : Value).ownBlock ∧ k_ ≠ gb276 ∧ k_ ≠ gb290 ∧ k_ ≠ gb296 ∧ k_ ≠ gb302) v300 t299) := ⟨h0_⟩
            have n1_ : Aside0 (Kd.R k34 34 w60 w.heap.size (fun k_ => some k_ ≠ (.slice Ao11 t277.length co11 : Value).ownBlock) (.slice (some ad297) t280.length co15) t280) := ⟨h1_⟩
            have n2_ : Aside0 (Kd.R k34 34 w60 w.heap.size (fun k_ => some k_ ≠ (.slice (some ad297) t280.length co15 : Value).ownBlock) (.slice Ao11 t277.length co11) t277) := ⟨h2_⟩
            have n3_ : Aside0 (Kd.V k34 34 w60 w.heap.size (fun k_ => some k_ ≠ (.slice (some ad297) t280.length co15 : Value).ownBlock ∧ some k_ ≠ (.slice Ao36 t283.length co36 : Value).ownBlock ∧ k_ ≠ gb276 ∧ k_ ≠ gb290 ∧ k_ ≠ gb296 ∧ k_ ≠ gb302) (.slice Ao18 t286.length co18) t286) := ⟨h3_⟩
            have n4_ : Aside0 (Kd.V k34 34 w60 w.heap.size (fun k_ => some k_ ≠ (.slice (some ad297) t280.length co15 : Value).ownBlock ∧ some k_ ≠ (.slice Ao36 t283.length co36 : Value).ownBlock ∧ k_ ≠ gb276 ∧ k_ ≠ gb290 ∧ k_ ≠ gb296 ∧ k_ ≠ gb302) (.slice Ao56 x297000_2.length co56) x297000_2) := ⟨h4_⟩
            have n5_ : Aside0 (Kd.R (Kd.int .i64) 3 w60 w.heap.size (fun _ => True) (.slice Ao36 t283.length co36) t283) := ⟨h5_⟩
            have n6_ : Aside0 (w60.heap[gb276]? = some (.cells #[.slice Ao11 t277.length co11] 24 (0, 0))) := ⟨h6_⟩
            have n7_ : Aside0 (w60.heap[gb290]? = some (.cells #[.slice Ao18 t286.length co18] 24 (0, 0))) := ⟨h7_⟩
            have n8_ : Aside0 (w60.heap[gb296]? = some (.cells #[.slice Ao56 x297000_2.length co56] 24 (0, 0))) := ⟨h8_⟩
            have n9_ : Aside0 (w60.heap[gb302]? = some (.cells #[.slice none 0 0] 24 (0, 0))) := ⟨h9_⟩
            have n10_ : Aside0 (w.heap.size ≤ gb302) := ⟨h10_⟩
            have n11_ : Aside0 (w.heap.size ≤ gb302) := ⟨h11_⟩
            have n12_ : Aside0 (gb276 ≠ gb302) := ⟨h12_⟩
            have n13_ : Aside0 (gb302 ≠ gb276) := ⟨h13_⟩
            have n14_ : Aside0 (gb290 ≠ gb302) := ⟨h14_⟩
            have n15_ : Aside0 (gb302 ≠ gb290) := ⟨h15_⟩
            have n16_ : Aside0 (gb296 ≠ gb302) := ⟨h16_⟩
            have n17_ : Aside0 (gb302 ≠ gb296) := ⟨h17_⟩
            have n18_ : Aside0 (Below w.heap.size w w60) := ⟨h18_⟩
            clear HO_1 HO_5 HO_277000 HO_291000 HO_297000 BK276 BK290 BK296 HB h0_ h1_ h2_ h3_ h4_ h5_ h6_ h7_ h8_ h9_ h10_ h11_ h12_ h13_ h14_ h15_ h16_ h17_ h18_
            have HO301 := n0_
            have HO_1 := n1_
            have HO_277000 := n2_
            have HO_291000 := n3_
            have HO_297000 := n4_
            have HO_5 := n5_
            have BK276 := n6_
            have BK290 := n7_
            have BK296 := n8_
            have BK302 := n9_
            have GW302 := n10_
            have GE302 := n11_
            have NB276_302 := n12_
            have NB302_276 := n13_
            have NB290_302 := n14_
            have NB302_290 := n15_
            have NB296_302 := n16_
            have NB302_296 := n17_
            have HB := n18_
            clear n0_ n1_ n2_ n3_ n4_ n5_ n6_ n7_ n8_ n9_ n10_ n11_ n12_ n13_ n14_ n15_ n16_ n17_ n18_
            have hHeld : w60.cell? ⟨gb296, 0, none⟩ = some (.slice Ao56 x297000_2.length co56) ∧ w60.cell? (ad297.add ((x11_2).toNat * 2)) = some (.string ((rd_T34 t280 x11_2).f0)) ∧ w60.cell? ⟨(ad297.add ((x11_2).toNat * 2)).block, (ad297.add ((x11_2).toNat * 2)).off + 1, none⟩ = some (.string ((rd_T34 t280 x11_2).f1)) := hS_
            obtain ⟨Ao61, co61, eo61⟩ := Kd.V_slice HO301.out
            (first | subst eo61 | (injection eo61 with f1_ f2_ f3_; have f4_ := f1_.symm; have f5_ := f3_.symm; clear f1_ f2_ f3_; subst f4_; subst f5_))
            refine norm_ (a' := ?_) ?_ ?_
            rotate_left
            ·simp only [putAll, Act.put, List.setIfInBounds_toArray, List.set_cons_zero, List.set_cons_succ]
             rfl
            refine pure_ (i := 10) (N := some 12) (v := ?_) (a' := ?_) #[true, true, true, true, true, true, true, true, true, true, true, false] rfl rfl (any_of HT_.out (by kernel_rfl)) (fun _ _ _ h => h) (Or.inl ⟨by rfl, ?_⟩) ?_ ?_
            rotate_left
            ·intro w'
             go_simp
             with_reducible rfl
            rotate_left
            ·simp only [Act.put, List.setIfInBounds_toArray, List.set_cons_zero, List.set_cons_succ, i64_w, i32_w]
             rfl
            refine one_ (i := 11) (N := none) #[true, true, true, true, true, true, true, true, true, true, true, true] rfl rfl (one_of HT_.out (by kernel_rfl)) (by decide) (fun K hK => ?_)
            have hs62 : w60.cell? ⟨gb302, 0, none⟩ = some (.slice none 0 0) := (blk_cell BK302.out 0).trans rfl
            have hfs62 := blk_frozen BK302.out 0
            have hns62_0 := NB276_302.out
            have hns62_1 := NB290_302.out
            have hns62_2 := NB296_302.out
            have hms62_0 := NB302_276.out
            have hms62_1 := NB302_290.out
            have hms62_2 := NB302_296.out
            refine skip_ (w1 := ?_) (by rfl) rfl ?_ ?_
            rotate_left
            ·go_simp
             rfl
            refine hK.out _ _ ⟨((cell_far (p := ⟨gb302, _, none⟩) NB296_302.out _).trans (hHeld.1)), ((cell_far (p := ⟨gb302, _, none⟩) (by first | exact Kd.own_blk (Kd.R_ne HO_1.out BK302.out (by decide)) | (rw [add_block]; exact Kd.own_blk (Kd.R_ne HO_1.out BK302.out (by decide))) | (show (Addr.add _ _).block ≠ _; rw [add_block]; exact Kd.own_blk (Kd.R_ne HO_1.out BK302.out (by decide))) | (dsimp only; exact Kd.own_blk (Kd.R_ne HO_1.out BK302.out (by decide)))) _).trans (hHeld.2.1)), ((cell_far (p := ⟨gb302, _, none⟩) (by first | exact Kd.own_blk (Kd.R_ne HO_1.out BK302.out (by decide)) | (rw [add_block]; exact Kd.own_blk (Kd.R_ne HO_1.out BK302.out (by decide))) | (show (Addr.add _ _).block ≠ _; rw [add_block]; exact Kd.own_blk (Kd.R_ne HO_1.out BK302.out (by decide))) | (dsimp only; exact Kd.own_blk (Kd.R_ne HO_1.out BK302.out (by decide)))) _).trans (hHeld.2.2))⟩ (fun hHeld => ?_)
            clear hK K
            refine done_ (done_of HT_.out (by kernel_rfl)) ?_
            have p303 : 0 ≤ (x11_2 : Int) := of_decide_eq_true (by first | (with_reducible assumption) | assumption)
            have q303 : x11_2 < (t283.length : Int) := of_decide_eq_true (by first | (with_reducible assumption) | assumption)
            obtain ⟨ad303, e303, hx303_0⟩ := Kd.at_int (Kd.R_reads' HO_5.out).2.2 x11_2 p303 q303
            cases e303
            have hn303_0 : ad303.block ≠ gb302 := Kd.own_blk (Kd.R_ne HO_5.out BK302.out (by decide))
            replace hx303_0 := (cell_far (p := ⟨gb302, 0, none⟩) (by first | (rw [add_block]; exact hn303_0) | (show (Addr.add _ _).block ≠ _; rw [add_block]; exact hn303_0) | exact hn303_0) (.slice Ao61 t299.length co61)).trans hx303_0
            clear hn303_0
            replace p303 := eq_true p303
            replace q303 := eq_true q303
            try go_wp2
            go_ret
            exact ⟨by first | rfl | (simp [errW_none, errW_some] <;> rfl) | (simp [*, errW_none, errW_some] <;> rfl), by repeat (first | (with_reducible first | exact HB.out | apply below_alloc | apply pw_below_drewN | apply below_drew1 | refine below_set ?_ GE276.out | refine below_set ?_ GE290.out | refine below_set ?_ GE296.out | refine below_set ?_ GE302.out) | exact HB.out)⟩
          ·rw [if_neg c40] at H
           exact absurd H (by simp)
         ·rw [if_neg c38] at H
          exact absurd H (by simp)
        ·rw [if_neg c37] at H
         have c37b0 : decide (x11_2 < (t280.length : Int)) = false := decide_eq_false c37
         clear c37
         replace H := Option.bind_eq_some_iff.mp H
         obtain ⟨t304, A630, H⟩ := H
         replace H : (if t304 = true then (if t289 = 0 then ((graftwoodlaw10_awake.f k2).bind fun t305 => (some t305)) else (some false)) else (some false)) = some r := H
         have A63 := Aside0.mk A630
         clear A630
         by_cases c64 : t304 = true
         ·subst c64
          have H1 : (if t289 = 0 then ((graftwoodlaw10_awake.f k2).bind fun t305 => (some t305)) else (some false)) = some r := by rw [if_pos rfl] at H; exact H
          clear H
          have H := H1
          clear H1
          by_cases c65 : t289 = 0
          ·rw [if_pos c65] at H
           have c65b0 : (t289 == 0) = true := beq_iff_eq.mpr c65
           have c65b1 : (t289 != 0) = false := bne_eq_false_iff_eq.mpr c65
           clear c65
           replace H := Option.bind_eq_some_iff.mp H
           obtain ⟨t305, A660, H⟩ := H
           replace H : (some t305) = some r := H
           have A66 := Aside0.mk A660
           clear A660
           obtain rfl := Option.some.inj H
           have hnb67 := NB290_276.out
           have hnc67 := NB276_290.out
           have hnb68 := NB290_296.out
           have hnc68 := NB296_290.out
           have hcz69_0 : wr.cell? ⟨gb290, 0, none⟩ = some (.slice Ao18 t286.length co18) := (blk_cell BK290.out 0).trans rfl
           have hfz69_0 := blk_frozen BK290.out 0
           have hnb70 := NB296_276.out
           have hnc70 := NB276_296.out
           have hcz71_0 : wr.cell? ⟨gb296, 0, none⟩ = some (u297000) := (blk_cell BK296.out 0).trans rfl
           have hfz71_0 := blk_frozen BK296.out 0
           obtain ⟨Ao72, co72, eo72⟩ := Kd.V_slice HO_297000.out
           subst eo72
           go_wp2_with (first | ((with_reducible refine gate_callee (f := 13) rfl ?_); refine goesL_ (some 88) rfl rfl Tryd.func13 (by kernel_rfl) rfl #[.agg #[.slice Ao18 t286.length co18], .agg #[.slice Ao72 x297000_2.length co72]] rfl (by (try simp only [List.map_toArray, List.map_cons, List.map_nil]); first | done | rfl | (simp only [List.length_drop, List.length_take]; rfl)) ?_; (with_reducible refine (graftwoodlaw10_same.calls k2 _ _ t286 _ _ x297000_2 true _ ?side1 ?side2 ?side3 ?side4 A63.out).mono ?_); (case side1 => repeat (first | exact (Kd.V_reads' HO_291000.out).2.2 | (with_reducible refine Kd.C_alloc ?_ _) | (with_reducible refine Kd.C_drewN ?_ _) | (with_reducible refine Kd.C_drew ?_))); (case side2 => exact (Kd.V_reads' HO_291000.out).2.1); (case side3 => repeat (first | exact (Kd.V_reads' HO_297000.out).2.2 | (with_reducible refine Kd.C_alloc ?_ _) | (with_reducible refine Kd.C_drewN ?_ _) | (with_reducible refine Kd.C_drew ?_))); (case side4 => exact (Kd.V_reads' HO_297000.out).2.1); rintro e w73 ⟨rfl, hb⟩; refine ⟨_, rfl, ?_⟩; have n0_ := Aside0.mk (Kd.R_below (by (with_reducible repeat (first | apply Kd.R_alloc | apply Kd.R_drewN | apply Kd.R_drew)); exact HO_1.out) hb); have n1_ := Aside0.mk (Kd.R_below (by (with_reducible repeat (first | apply Kd.R_alloc | apply Kd.R_drewN | apply Kd.R_drew)); exact HO_5.out) hb); have n2_ := Aside0.mk (Kd.R_below (by (with_reducible repeat (first | apply Kd.R_alloc | apply Kd.R_drewN | apply Kd.R_drew)); exact HO_277000.out) hb); have n3_ := Aside0.mk (Kd.V_below (by (with_reducible repeat (first | apply Kd.V_alloc | apply Kd.V_drewN | apply Kd.V_drew)); exact HO_291000.out) hb); have n4_ := Aside0.mk (Kd.V_below (by (with_reducible repeat (first | apply Kd.V_alloc | apply Kd.V_drewN | apply Kd.V_drew)); exact HO_297000.out) hb); have n5_ := Aside0.mk (blk_below (g := gb276) (o := .cells #[.slice Ao11 t277.length co11] 24 (0, 0)) (by (with_reducible repeat (first | refine blk_drewN ?_ _ | refine blk_drew ?_ | refine blk_alloc ?_ _)); exact BK276.out) hb); have n6_ := Aside0.mk (blk_below (g := gb290) (o := .cells #[.slice Ao18 t286.length co18] 24 (0, 0)) (by (with_reducible repeat (first | refine blk_drewN ?_ _ | refine blk_drew ?_ | refine blk_alloc ?_ _)); exact BK290.out) hb); have n7_ := Aside0.mk (blk_below (g := gb296) (o := .cells #[.slice Ao72 x297000_2.length co72] 24 (0, 0)) (by (with_reducible repeat (first | refine blk_drewN ?_ _ | refine blk_drew ?_ | refine blk_alloc ?_ _)); exact BK296.out) hb); have n8_ := Aside0.mk (below_step (by repeat (first | (with_reducible first | exact HB.out | apply below_alloc | apply pw_below_drewN | apply below_drew1 | refine below_set ?_ GE276.out | refine below_set ?_ GE290.out | refine below_set ?_ GE296.out) | exact HB.out)) hb); clear HO_1; clear HO_5; clear HO_277000; clear HO_291000; clear HO_297000; clear BK276; clear BK290; clear BK296; clear HB; have HO_1 := n0_; have HO_5 := n1_; have HO_277000 := n2_; have HO_291000 := n3_; have HO_297000 := n4_; have BK276 := n5_; have BK290 := n6_; have BK296 := n7_; have HB := n8_; clear n0_ n1_ n2_ n3_ n4_ n5_ n6_ n7_ n8_; (try clear hb); (try clear hb2); (try clear hk); (try clear hi)) | (go_at_call 14; (with_reducible refine (graftwoodlaw10_awake.calls k2  t305 _ A66.out).mono ?_); rintro e w74 ⟨rfl, hb⟩; have n0_ := Aside0.mk (Kd.R_below (by (with_reducible repeat (first | apply Kd.R_alloc | apply Kd.R_drewN | apply Kd.R_drew)); exact HO_1.out) hb); have n1_ := Aside0.mk (Kd.R_below (by (with_reducible repeat (first | apply Kd.R_alloc | apply Kd.R_drewN | apply Kd.R_drew)); exact HO_5.out) hb); have n2_ := Aside0.mk (Kd.R_below (by (with_reducible repeat (first | apply Kd.R_alloc | apply Kd.R_drewN | apply Kd.R_drew)); exact HO_277000.out) hb); have n3_ := Aside0.mk (Kd.V_below (by (with_reducible repeat (first | apply Kd.V_alloc | apply Kd.V_drewN | apply Kd.V_drew)); exact HO_291000.out) hb); have n4_ := Aside0.mk (Kd.V_below (by (with_reducible repeat (first | apply Kd.V_alloc | apply Kd.V_drewN | apply Kd.V_drew)); exact HO_297000.out) hb); have n5_ := Aside0.mk (blk_below (g := gb276) (o := .cells #[.slice Ao11 t277.length co11] 24 (0, 0)) (by (with_reducible repeat (first | refine blk_drewN ?_ _ | refine blk_drew ?_ | refine blk_alloc ?_ _)); exact BK276.out) hb); have n6_ := Aside0.mk (blk_below (g := gb290) (o := .cells #[.slice Ao18 t286.length co18] 24 (0, 0)) (by (with_reducible repeat (first | refine blk_drewN ?_ _ | refine blk_drew ?_ | refine blk_alloc ?_ _)); exact BK290.out) hb); have n7_ := Aside0.mk (blk_below (g := gb296) (o := .cells #[.slice Ao72 x297000_2.length co72] 24 (0, 0)) (by (with_reducible repeat (first | refine blk_drewN ?_ _ | refine blk_drew ?_ | refine blk_alloc ?_ _)); exact BK296.out) hb); have n8_ := Aside0.mk (below_step (by repeat (first | (with_reducible first | exact HB.out | apply below_alloc | apply pw_below_drewN | apply below_drew1 | refine below_set ?_ GE276.out | refine below_set ?_ GE290.out | refine below_set ?_ GE296.out) | exact HB.out)) hb); clear HO_1; clear HO_5; clear HO_277000; clear HO_291000; clear HO_297000; clear BK276; clear BK290; clear BK296; clear HB; have HO_1 := n0_; have HO_5 := n1_; have HO_277000 := n2_; have HO_291000 := n3_; have HO_297000 := n4_; have BK276 := n5_; have BK290 := n6_; have BK296 := n7_; have HB := n8_; clear n0_ n1_ n2_ n3_ n4_ n5_ n6_ n7_ n8_; (try clear hb); (try clear hb2); (try clear hk); (try clear hi)))
           go_ret
           exact ⟨by first | rfl | (simp [errW_none, errW_some] <;> rfl) | (simp [*, errW_none, errW_some] <;> rfl), by repeat (first | (with_reducible first | exact HB.out | apply below_alloc | apply pw_below_drewN | apply below_drew1 | refine below_set ?_ GE276.out | refine below_set ?_ GE290.out | refine below_set ?_ GE296.out) | exact HB.out)⟩
          ·rw [if_neg c65] at H
           have c65b0 : (t289 == 0) = false := beq_eq_false_iff_ne.mpr c65
           have c65b1 : (t289 != 0) = true := bne_iff_ne.mpr c65
           obtain rfl := Option.some.inj H
           have hnb75 := NB290_276.out
           have hnc75 := NB276_290.out
           have hnb76 := NB290_296.out
           have hnc76 := NB296_290.out
           have hcz77_0 : wr.cell? ⟨gb290, 0, none⟩ = some (.slice Ao18 t286.length co18) := (blk_cell BK290.out 0).trans rfl
           have hfz77_0 := blk_frozen BK290.out 0
           have hnb78 := NB296_276.out
           have hnc78 := NB276_296.out
           have hcz79_0 : wr.cell? ⟨gb296, 0, none⟩ = some (u297000) := (blk_cell BK296.out 0).trans rfl
           have hfz79_0 := blk_frozen BK296.out 0
           obtain ⟨Ao80, co80, eo80⟩ := Kd.V_slice HO_297000.out
           subst eo80
           go_wp2_with (first | ((with_reducible refine gate_callee (f := 13) rfl ?_); refine goesL_ (some 88) rfl rfl Tryd.func13 (by kernel_rfl) rfl #[.agg #[.slice Ao18 t286.length co18], .agg #[.slice Ao80 x297000_2.length co80]] rfl (by (try simp only [List.map_toArray, List.map_cons, List.map_nil]); first | done | rfl | (simp only [List.length_drop, List.length_take]; rfl)) ?_; (with_reducible refine (graftwoodlaw10_same.calls k2 _ _ t286 _ _ x297000_2 true _ ?side1 ?side2 ?side3 ?side4 A63.out).mono ?_); (case side1 => repeat (first | exact (Kd.V_reads' HO_291000.out).2.2 | (with_reducible refine Kd.C_alloc ?_ _) | (with_reducible refine Kd.C_drewN ?_ _) | (with_reducible refine Kd.C_drew ?_))); (case side2 => exact (Kd.V_reads' HO_291000.out).2.1); (case side3 => repeat (first | exact (Kd.V_reads' HO_297000.out).2.2 | (with_reducible refine Kd.C_alloc ?_ _) | (with_reducible refine Kd.C_drewN ?_ _) | (with_reducible refine Kd.C_drew ?_))); (case side4 => exact (Kd.V_reads' HO_297000.out).2.1); rintro e w81 ⟨rfl, hb⟩; refine ⟨_, rfl, ?_⟩; have n0_ := Aside0.mk (Kd.R_below (by (with_reducible repeat (first | apply Kd.R_alloc | apply Kd.R_drewN | apply Kd.R_drew)); exact HO_1.out) hb); have n1_ := Aside0.mk (Kd.R_below (by (with_reducible repeat (first | apply Kd.R_alloc | apply Kd.R_drewN | apply Kd.R_drew)); exact HO_5.out) hb); have n2_ := Aside0.mk (Kd.R_below (by (with_reducible repeat (first | apply Kd.R_alloc | apply Kd.R_drewN | apply Kd.R_drew)); exact HO_277000.out) hb); have n3_ := Aside0.mk (Kd.V_below (by (with_reducible repeat (first | apply Kd.V_alloc | apply Kd.V_drewN | apply Kd.V_drew)); exact HO_291000.out) hb); have n4_ := Aside0.mk (Kd.V_below (by (with_reducible repeat (first | apply Kd.V_alloc | apply Kd.V_drewN | apply Kd.V_drew)); exact HO_297000.out) hb); have n5_ := Aside0.mk (blk_below (g := gb276) (o := .cells #[.slice Ao11 t277.length co11] 24 (0, 0)) (by (with_reducible repeat (first | refine blk_drewN ?_ _ | refine blk_drew ?_ | refine blk_alloc ?_ _)); exact BK276.out) hb); have n6_ := Aside0.mk (blk_below (g := gb290) (o := .cells #[.slice Ao18 t286.length co18] 24 (0, 0)) (by (with_reducible repeat (first | refine blk_drewN ?_ _ | refine blk_drew ?_ | refine blk_alloc ?_ _)); exact BK290.out) hb); have n7_ := Aside0.mk (blk_below (g := gb296) (o := .cells #[.slice Ao80 x297000_2.length co80] 24 (0, 0)) (by (with_reducible repeat (first | refine blk_drewN ?_ _ | refine blk_drew ?_ | refine blk_alloc ?_ _)); exact BK296.out) hb); have n8_ := Aside0.mk (below_step (by repeat (first | (with_reducible first | exact HB.out | apply below_alloc | apply pw_below_drewN | apply below_drew1 | refine below_set ?_ GE276.out | refine below_set ?_ GE290.out | refine below_set ?_ GE296.out) | exact HB.out)) hb); clear HO_1; clear HO_5; clear HO_277000; clear HO_291000; clear HO_297000; clear BK276; clear BK290; clear BK296; clear HB; have HO_1 := n0_; have HO_5 := n1_; have HO_277000 := n2_; have HO_291000 := n3_; have HO_297000 := n4_; have BK276 := n5_; have BK290 := n6_; have BK296 := n7_; have HB := n8_; clear n0_ n1_ n2_ n3_ n4_ n5_ n6_ n7_ n8_; (try clear hb); (try clear hb2); (try clear hk); (try clear hi)))
           go_ret
           exact ⟨by first | rfl | (simp [errW_none, errW_some] <;> rfl) | (simp [*, errW_none, errW_some] <;> rfl), by repeat (first | (with_reducible first | exact HB.out | apply below_alloc | apply pw_below_drewN | apply below_drew1 | refine below_set ?_ GE276.out | refine below_set ?_ GE290.out | refine below_set ?_ GE296.out) | exact HB.out)⟩
         ·replace c64 := Bool.eq_false_iff.mpr c64
          subst c64
          have H1 : (some false) = some r := by rw [if_neg (show ¬ (false = true) by decide)] at H; exact H
          clear H
          have H := H1
          clear H1
          obtain rfl := Option.some.inj H
          have hnb82 := NB290_276.out
          have hnc82 := NB276_290.out
          have hnb83 := NB290_296.out
          have hnc83 := NB296_290.out
          have hcz84_0 : wr.cell? ⟨gb290, 0, none⟩ = some (.slice Ao18 t286.length co18) := (blk_cell BK290.out 0).trans rfl
          have hfz84_0 := blk_frozen BK290.out 0
          have hnb85 := NB296_276.out
          have hnc85 := NB276_296.out
          have hcz86_0 : wr.cell? ⟨gb296, 0, none⟩ = some (u297000) := (blk_cell BK296.out 0).trans rfl
          have hfz86_0 := blk_frozen BK296.out 0
          obtain ⟨Ao87, co87, eo87⟩ := Kd.V_slice HO_297000.out
          subst eo87
          go_wp2_with (first | ((with_reducible refine gate_callee (f := 13) rfl ?_); refine goesL_ (some 88) rfl rfl Tryd.func13 (by kernel_rfl) rfl #[.agg #[.slice Ao18 t286.length co18], .agg #[.slice Ao87 x297000_2.length co87]] rfl (by (try simp only [List.map_toArray, List.map_cons, List.map_nil]); first | done | rfl | (simp only [List.length_drop, List.length_take]; rfl)) ?_; (with_reducible refine (graftwoodlaw10_same.calls k2 _ _ t286 _ _ x297000_2 false _ ?side1 ?side2 ?side3 ?side4 A63.out).mono ?_); (case side1 => repeat (first | exact (Kd.V_reads' HO_291000.out).2.2 | (with_reducible refine Kd.C_alloc ?_ _) | (with_reducible refine Kd.C_drewN ?_ _) | (with_reducible refine Kd.C_drew ?_))); (case side2 => exact (Kd.V_reads' HO_291000.out).2.1); (case side3 => repeat (first | exact (Kd.V_reads' HO_297000.out).2.2 | (with_reducible refine Kd.C_alloc ?_ _) | (with_reducible refine Kd.C_drewN ?_ _) | (with_reducible refine Kd.C_drew ?_))); (case side4 => exact (Kd.V_reads' HO_297000.out).2.1); rintro e w88 ⟨rfl, hb⟩; refine ⟨_, rfl, ?_⟩; have n0_ := Aside0.mk (Kd.R_below (by (with_reducible repeat (first | apply Kd.R_alloc | apply Kd.R_drewN | apply Kd.R_drew)); exact HO_1.out) hb); have n1_ := Aside0.mk (Kd.R_below (by (with_reducible repeat (first | apply Kd.R_alloc | apply Kd.R_drewN | apply Kd.R_drew)); exact HO_5.out) hb); have n2_ := Aside0.mk (Kd.R_below (by (with_reducible repeat (first | apply Kd.R_alloc | apply Kd.R_drewN | apply Kd.R_drew)); exact HO_277000.out) hb); have n3_ := Aside0.mk (Kd.V_below (by (with_reducible repeat (first | apply Kd.V_alloc | apply Kd.V_drewN | apply Kd.V_drew)); exact HO_291000.out) hb); have n4_ := Aside0.mk (Kd.V_below (by (with_reducible repeat (first | apply Kd.V_alloc | apply Kd.V_drewN | apply Kd.V_drew)); exact HO_297000.out) hb); have n5_ := Aside0.mk (blk_below (g := gb276) (o := .cells #[.slice Ao11 t277.length co11] 24 (0, 0)) (by (with_reducible repeat (first | refine blk_drewN ?_ _ | refine blk_drew ?_ | refine blk_alloc ?_ _)); exact BK276.out) hb); have n6_ := Aside0.mk (blk_below (g := gb290) (o := .cells #[.slice Ao18 t286.length co18] 24 (0, 0)) (by (with_reducible repeat (first | refine blk_drewN ?_ _ | refine blk_drew ?_ | refine blk_alloc ?_ _)); exact BK290.out) hb); have n7_ := Aside0.mk (blk_below (g := gb296) (o := .cells #[.slice Ao87 x297000_2.length co87] 24 (0, 0)) (by (with_reducible repeat (first | refine blk_drewN ?_ _ | refine blk_drew ?_ | refine blk_alloc ?_ _)); exact BK296.out) hb); have n8_ := Aside0.mk (below_step (by repeat (first | (with_reducible first | exact HB.out | apply below_alloc | apply pw_below_drewN | apply below_drew1 | refine below_set ?_ GE276.out | refine below_set ?_ GE290.out | refine below_set ?_ GE296.out) | exact HB.out)) hb); clear HO_1; clear HO_5; clear HO_277000; clear HO_291000; clear HO_297000; clear BK276; clear BK290; clear BK296; clear HB; have HO_1 := n0_; have HO_5 := n1_; have HO_277000 := n2_; have HO_291000 := n3_; have HO_297000 := n4_; have BK276 := n5_; have BK290 := n6_; have BK296 := n7_; have HB := n8_; clear n0_ n1_ n2_ n3_ n4_ n5_ n6_ n7_ n8_; (try clear hb); (try clear hb2); (try clear hk); (try clear hi)))
          go_ret
          exact ⟨by first | rfl | (simp [errW_none, errW_some] <;> rfl) | (simp [*, errW_none, errW_some] <;> rfl), by repeat (first | (with_reducible first | exact HB.out | apply below_alloc | apply pw_below_drewN | apply below_drew1 | refine below_set ?_ GE276.out | refine below_set ?_ GE290.out | refine below_set ?_ GE296.out) | exact HB.out)⟩
     ·rw [if_neg c29] at H
      have c29b0 : ((t283.length : Int) == (t280.length : Int)) = false := beq_eq_false_iff_ne.mpr c29
      have c29b1 : ((t283.length : Int) != (t280.length : Int)) = true := bne_iff_ne.mpr c29
      have c29b2 : (t283.length == t280.length) = false := by first | simpa using c29 | (simp at c29 ⊢; omega)
      obtain rfl := Option.some.inj H
      have hnb89 := NB276_290.out
      have hnc89 := NB290_276.out
      have hcz90_0 : wr.cell? ⟨gb276, 0, none⟩ = some (.slice Ao11 t277.length co11) := (blk_cell BK276.out 0).trans rfl
      have hfz90_0 := blk_frozen BK276.out 0
      go_wp2_with (first | ((with_reducible refine gate_dst (N := 10) rfl ?_); refine box_event ?hg (N := 10) ?hd (cs := #[.slice none 0 0]) (t := 24) ?hr ?_; (case hd => rfl); (case hg => rfl); (case hr => first | (go_simp; done) | (go_simp; rfl)); intro gb296 hg w91 hbox hb; have n0_ := Aside0.mk (Kd.R_below (by (with_reducible repeat (first | apply Kd.R_alloc | apply Kd.R_drewN | apply Kd.R_drew)); exact HO_1.out) hb); have n1_ := Aside0.mk (Kd.R_below (by (with_reducible repeat (first | apply Kd.R_alloc | apply Kd.R_drewN | apply Kd.R_drew)); exact HO_5.out) hb); have n2_ := Aside0.mk (Kd.R_below (by (with_reducible repeat (first | apply Kd.R_alloc | apply Kd.R_drewN | apply Kd.R_drew)); exact HO_277000.out) hb); have n3_ := Aside0.mk (Kd.V_below (Kd.V_elderB (by (with_reducible repeat (first | apply Kd.V_alloc | apply Kd.V_drewN | apply Kd.V_drew)); exact HO_291000.out) gb296 (Nat.le_of_eq hg.symm)) hb); have n4_ := Aside0.mk (blk_below (g := gb276) (o := .cells #[.slice Ao11 t277.length co11] 24 (0, 0)) (by (with_reducible repeat (first | refine blk_drewN ?_ _ | refine blk_drew ?_ | refine blk_alloc ?_ _)); exact BK276.out) hb); have n5_ := Aside0.mk (blk_below (g := gb290) (o := .cells #[.slice Ao18 t286.length co18] 24 (0, 0)) (by (with_reducible repeat (first | refine blk_drewN ?_ _ | refine blk_drew ?_ | refine blk_alloc ?_ _)); exact BK290.out) hb); have n6_ := Aside0.mk (below_step (by repeat (first | (with_reducible first | exact HB.out | apply below_alloc | apply pw_below_drewN | apply below_drew1 | refine below_set ?_ GE276.out | refine below_set ?_ GE290.out) | exact HB.out)) hb); have n7_ := Aside0.mk (hbox); have n8_ := Aside0.mk ((by rw [hg]; exact (below_size (by repeat (first | (with_reducible first | exact HB.out | apply below_alloc | apply pw_below_drewN | apply below_drew1 | refine below_set ?_ GE276.out | refine below_set ?_ GE290.out) | exact HB.out))) : w.heap.size ≤ gb296)); have n9_ := Aside0.mk ((by rw [hg]; exact (below_size (by repeat (first | (with_reducible first | exact HB.out | apply below_alloc | apply pw_below_drewN | apply below_drew1 | refine below_set ?_ GE276.out | refine below_set ?_ GE290.out) | exact HB.out))) : w.heap.size ≤ gb296)); have n10_ := Aside0.mk ((by rw [hg]; exact Nat.ne_of_lt (blk_lt (g := gb276) (o := .cells #[.slice Ao11 t277.length co11] 24 (0, 0)) (by (with_reducible repeat (first | refine blk_drewN ?_ _ | refine blk_drew ?_ | refine blk_alloc ?_ _)); exact BK276.out)) : gb276 ≠ gb296)); have n11_ := Aside0.mk ((by rw [hg]; exact Nat.ne_of_gt (blk_lt (g := gb276) (o := .cells #[.slice Ao11 t277.length co11] 24 (0, 0)) (by (with_reducible repeat (first | refine blk_drewN ?_ _ | refine blk_drew ?_ | refine blk_alloc ?_ _)); exact BK276.out)) : gb296 ≠ gb276)); have n12_ := Aside0.mk ((by rw [hg]; exact Nat.ne_of_lt (blk_lt (g := gb290) (o := .cells #[.slice Ao18 t286.length co18] 24 (0, 0)) (by (with_reducible repeat (first | refine blk_drewN ?_ _ | refine blk_drew ?_ | refine blk_alloc ?_ _)); exact BK290.out)) : gb290 ≠ gb296)); have n13_ := Aside0.mk ((by rw [hg]; exact Nat.ne_of_gt (blk_lt (g := gb290) (o := .cells #[.slice Ao18 t286.length co18] 24 (0, 0)) (by (with_reducible repeat (first | refine blk_drewN ?_ _ | refine blk_drew ?_ | refine blk_alloc ?_ _)); exact BK290.out)) : gb296 ≠ gb290)); clear HO_1; clear HO_5; clear HO_277000; clear HO_291000; clear BK276; clear BK290; clear HB; have HO_1 := n0_; have HO_5 := n1_; have HO_277000 := n2_; have HO_291000 := n3_; have BK276 := n4_; have BK290 := n5_; have HB := n6_; have BK296 := n7_; have GW296 := n8_; have GE296 := n9_; have NB276_296 := n10_; have NB296_276 := n11_; have NB290_296 := n12_; have NB296_290 := n13_; clear n0_ n1_ n2_ n3_ n4_ n5_ n6_ n7_ n8_ n9_ n10_ n11_ n12_ n13_; clear hb hbox hg; have hnb92 := NB296_276.out; have hnc92 := NB276_296.out; have hnb93 := NB296_290.out; have hnc93 := NB290_296.out; have hcz94_0 : w91.cell? ⟨gb296, 0, none⟩ = some (.slice none 0 0) := (blk_cell BK296.out 0).trans rfl; have hfz94_0 := blk_frozen BK296.out 0; obtain ⟨Ao95, co95, eo95⟩ := Kd.R_slice HO_5.out; subst eo95))
      go_ret
      exact ⟨by first | rfl | (simp [errW_none, errW_some] <;> rfl) | (simp [*, errW_none, errW_some] <;> rfl), by repeat (first | (with_reducible first | exact HB.out | apply below_alloc | apply pw_below_drewN | apply below_drew1 | refine below_set ?_ GE276.out | refine below_set ?_ GE290.out | refine below_set ?_ GE296.out) | exact HB.out)⟩
    ·replace c28 := Bool.eq_false_iff.mpr c28
     subst c28
     have H1 : (if (t283.length : Int) = 0 then ((graftwoodlaw10_same.f k1 t286 t277).bind fun t294 => (if t294 = true then (if t289 = 1 then ((graftwoodlaw10_awake.f k1).bind fun t295 => (some t295)) else (some false)) else (some false))) else (some false)) = some r := by rw [if_neg (show ¬ (false = true) by decide)] at H; exact H
     clear H
     have H := H1
     clear H1
     by_cases c96 : (t283.length : Int) = 0
     ·rw [if_pos c96] at H
      have c96b0 : ((t283.length : Int) == 0) = true := beq_iff_eq.mpr c96
      have c96b1 : ((t283.length : Int) != 0) = false := bne_eq_false_iff_eq.mpr c96
      clear c96
      replace H := Option.bind_eq_some_iff.mp H
      obtain ⟨t294, A970, H⟩ := H
      replace H : (if t294 = true then (if t289 = 1 then ((graftwoodlaw10_awake.f k1).bind fun t295 => (some t295)) else (some false)) else (some false)) = some r := H
      have A97 := Aside0.mk A970
      clear A970
      by_cases c98 : t294 = true
      ·subst c98
       have H1 : (if t289 = 1 then ((graftwoodlaw10_awake.f k1).bind fun t295 => (some t295)) else (some false)) = some r := by rw [if_pos rfl] at H; exact H
       clear H
       have H := H1
       clear H1
       by_cases c99 : t289 = 1
       ·rw [if_pos c99] at H
        have c99b0 : (t289 == 1) = true := beq_iff_eq.mpr c99
        have c99b1 : (t289 != 1) = false := bne_eq_false_iff_eq.mpr c99
        clear c99
        replace H := Option.bind_eq_some_iff.mp H
        obtain ⟨t295, A1000, H⟩ := H
        replace H : (some t295) = some r := H
        have A100 := Aside0.mk A1000
        clear A1000
        obtain rfl := Option.some.inj H
        obtain ⟨Ao101, co101, eo101⟩ := Kd.R_slice HO_5.out
        subst eo101
        have hnb102 := NB290_276.out
        have hnc102 := NB276_290.out
        have hcz103_0 : wr.cell? ⟨gb290, 0, none⟩ = some (.slice Ao18 t286.length co18) := (blk_cell BK290.out 0).trans rfl
        have hfz103_0 := blk_frozen BK290.out 0
        have hcz104_0 : wr.cell? ⟨gb276, 0, none⟩ = some (.slice Ao11 t277.length co11) := (blk_cell BK276.out 0).trans rfl
        have hfz104_0 := blk_frozen BK276.out 0
        go_wp2_with (first | (go_at_call 13; (with_reducible refine (graftwoodlaw10_same.calls k1 _ _ t286 _ _ t277 true _ ?side1 ?side2 ?side3 ?side4 A97.out).mono ?_); (case side1 => repeat (first | exact (Kd.V_reads' HO_291000.out).2.2 | (with_reducible refine Kd.C_alloc ?_ _) | (with_reducible refine Kd.C_drewN ?_ _) | (with_reducible refine Kd.C_drew ?_))); (case side2 => exact (Kd.V_reads' HO_291000.out).2.1); (case side3 => repeat (first | exact (Kd.R_reads' HO_277000.out).2.2 | (with_reducible refine Kd.C_alloc ?_ _) | (with_reducible refine Kd.C_drewN ?_ _) | (with_reducible refine Kd.C_drew ?_))); (case side4 => exact (Kd.R_reads' HO_277000.out).2.1); rintro e w105 ⟨rfl, hb⟩; have n0_ := Aside0.mk (Kd.R_below (by (with_reducible repeat (first | apply Kd.R_alloc | apply Kd.R_drewN | apply Kd.R_drew)); exact HO_1.out) hb); have n1_ := Aside0.mk (Kd.R_below (by (with_reducible repeat (first | apply Kd.R_alloc | apply Kd.R_drewN | apply Kd.R_drew)); exact HO_5.out) hb); have n2_ := Aside0.mk (Kd.R_below (by (with_reducible repeat (first | apply Kd.R_alloc | apply Kd.R_drewN | apply Kd.R_drew)); exact HO_277000.out) hb); have n3_ := Aside0.mk (Kd.V_below (by (with_reducible repeat (first | apply Kd.V_alloc | apply Kd.V_drewN | apply Kd.V_drew)); exact HO_291000.out) hb); have n4_ := Aside0.mk (blk_below (g := gb276) (o := .cells #[.slice Ao11 t277.length co11] 24 (0, 0)) (by (with_reducible repeat (first | refine blk_drewN ?_ _ | refine blk_drew ?_ | refine blk_alloc ?_ _)); exact BK276.out) hb); have n5_ := Aside0.mk (blk_below (g := gb290) (o := .cells #[.slice Ao18 t286.length co18] 24 (0, 0)) (by (with_reducible repeat (first | refine blk_drewN ?_ _ | refine blk_drew ?_ | refine blk_alloc ?_ _)); exact BK290.out) hb); have n6_ := Aside0.mk (below_step (by repeat (first | (with_reducible first | exact HB.out | apply below_alloc | apply pw_below_drewN | apply below_drew1 | refine below_set ?_ GE276.out | refine below_set ?_ GE290.out) | exact HB.out)) hb); clear HO_1; clear HO_5; clear HO_277000; clear HO_291000; clear BK276; clear BK290; clear HB; have HO_1 := n0_; have HO_5 := n1_; have HO_277000 := n2_; have HO_291000 := n3_; have BK276 := n4_; have BK290 := n5_; have HB := n6_; clear n0_ n1_ n2_ n3_ n4_ n5_ n6_; (try clear hb); (try clear hb2); (try clear hk); (try clear hi)) | (go_at_call 14; (with_reducible refine (graftwoodlaw10_awake.calls k1  t295 _ A100.out).mono ?_); rintro e w106 ⟨rfl, hb⟩; have n0_ := Aside0.mk (Kd.R_below (by (with_reducible repeat (first | apply Kd.R_alloc | apply Kd.R_drewN | apply Kd.R_drew)); exact HO_1.out) hb); have n1_ := Aside0.mk (Kd.R_below (by (with_reducible repeat (first | apply Kd.R_alloc | apply Kd.R_drewN | apply Kd.R_drew)); exact HO_5.out) hb); have n2_ := Aside0.mk (Kd.R_below (by (with_reducible repeat (first | apply Kd.R_alloc | apply Kd.R_drewN | apply Kd.R_drew)); exact HO_277000.out) hb); have n3_ := Aside0.mk (Kd.V_below (by (with_reducible repeat (first | apply Kd.V_alloc | apply Kd.V_drewN | apply Kd.V_drew)); exact HO_291000.out) hb); have n4_ := Aside0.mk (blk_below (g := gb276) (o := .cells #[.slice Ao11 t277.length co11] 24 (0, 0)) (by (with_reducible repeat (first | refine blk_drewN ?_ _ | refine blk_drew ?_ | refine blk_alloc ?_ _)); exact BK276.out) hb); have n5_ := Aside0.mk (blk_below (g := gb290) (o := .cells #[.slice Ao18 t286.length co18] 24 (0, 0)) (by (with_reducible repeat (first | refine blk_drewN ?_ _ | refine blk_drew ?_ | refine blk_alloc ?_ _)); exact BK290.out) hb); have n6_ := Aside0.mk (below_step (by repeat (first | (with_reducible first | exact HB.out | apply below_alloc | apply pw_below_drewN | apply below_drew1 | refine below_set ?_ GE276.out | refine below_set ?_ GE290.out) | exact HB.out)) hb); clear HO_1; clear HO_5; clear HO_277000; clear HO_291000; clear BK276; clear BK290; clear HB; have HO_1 := n0_; have HO_5 := n1_; have HO_277000 := n2_; have HO_291000 := n3_; have BK276 := n4_; have BK290 := n5_; have HB := n6_; clear n0_ n1_ n2_ n3_ n4_ n5_ n6_; (try clear hb); (try clear hb2); (try clear hk); (try clear hi)))
        go_ret
        exact ⟨by first | rfl | (simp [errW_none, errW_some] <;> rfl) | (simp [*, errW_none, errW_some] <;> rfl), by repeat (first | (with_reducible first | exact HB.out | apply below_alloc | apply pw_below_drewN | apply below_drew1 | refine below_set ?_ GE276.out | refine below_set ?_ GE290.out) | exact HB.out)⟩
       ·rw [if_neg c99] at H
        have c99b0 : (t289 == 1) = false := beq_eq_false_iff_ne.mpr c99
        have c99b1 : (t289 != 1) = true := bne_iff_ne.mpr c99
        obtain rfl := Option.some.inj H
        obtain ⟨Ao107, co107, eo107⟩ := Kd.R_slice HO_5.out
        subst eo107
        have hnb108 := NB290_276.out
        have hnc108 := NB276_290.out
        have hcz109_0 : wr.cell? ⟨gb290, 0, none⟩ = some (.slice Ao18 t286.length co18) := (blk_cell BK290.out 0).trans rfl
        have hfz109_0 := blk_frozen BK290.out 0
        have hcz110_0 : wr.cell? ⟨gb276, 0, none⟩ = some (.slice Ao11 t277.length co11) := (blk_cell BK276.out 0).trans rfl
        have hfz110_0 := blk_frozen BK276.out 0
        go_wp2_with (first | (go_at_call 13; (with_reducible refine (graftwoodlaw10_same.calls k1 _ _ t286 _ _ t277 true _ ?side1 ?side2 ?side3 ?side4 A97.out).mono ?_); (case side1 => repeat (first | exact (Kd.V_reads' HO_291000.out).2.2 | (with_reducible refine Kd.C_alloc ?_ _) | (with_reducible refine Kd.C_drewN ?_ _) | (with_reducible refine Kd.C_drew ?_))); (case side2 => exact (Kd.V_reads' HO_291000.out).2.1); (case side3 => repeat (first | exact (Kd.R_reads' HO_277000.out).2.2 | (with_reducible refine Kd.C_alloc ?_ _) | (with_reducible refine Kd.C_drewN ?_ _) | (with_reducible refine Kd.C_drew ?_))); (case side4 => exact (Kd.R_reads' HO_277000.out).2.1); rintro e w111 ⟨rfl, hb⟩; have n0_ := Aside0.mk (Kd.R_below (by (with_reducible repeat (first | apply Kd.R_alloc | apply Kd.R_drewN | apply Kd.R_drew)); exact HO_1.out) hb); have n1_ := Aside0.mk (Kd.R_below (by (with_reducible repeat (first | apply Kd.R_alloc | apply Kd.R_drewN | apply Kd.R_drew)); exact HO_5.out) hb); have n2_ := Aside0.mk (Kd.R_below (by (with_reducible repeat (first | apply Kd.R_alloc | apply Kd.R_drewN | apply Kd.R_drew)); exact HO_277000.out) hb); have n3_ := Aside0.mk (Kd.V_below (by (with_reducible repeat (first | apply Kd.V_alloc | apply Kd.V_drewN | apply Kd.V_drew)); exact HO_291000.out) hb); have n4_ := Aside0.mk (blk_below (g := gb276) (o := .cells #[.slice Ao11 t277.length co11] 24 (0, 0)) (by (with_reducible repeat (first | refine blk_drewN ?_ _ | refine blk_drew ?_ | refine blk_alloc ?_ _)); exact BK276.out) hb); have n5_ := Aside0.mk (blk_below (g := gb290) (o := .cells #[.slice Ao18 t286.length co18] 24 (0, 0)) (by (with_reducible repeat (first | refine blk_drewN ?_ _ | refine blk_drew ?_ | refine blk_alloc ?_ _)); exact BK290.out) hb); have n6_ := Aside0.mk (below_step (by repeat (first | (with_reducible first | exact HB.out | apply below_alloc | apply pw_below_drewN | apply below_drew1 | refine below_set ?_ GE276.out | refine below_set ?_ GE290.out) | exact HB.out)) hb); clear HO_1; clear HO_5; clear HO_277000; clear HO_291000; clear BK276; clear BK290; clear HB; have HO_1 := n0_; have HO_5 := n1_; have HO_277000 := n2_; have HO_291000 := n3_; have BK276 := n4_; have BK290 := n5_; have HB := n6_; clear n0_ n1_ n2_ n3_ n4_ n5_ n6_; (try clear hb); (try clear hb2); (try clear hk); (try clear hi)))
        go_ret
        exact ⟨by first | rfl | (simp [errW_none, errW_some] <;> rfl) | (simp [*, errW_none, errW_some] <;> rfl), by repeat (first | (with_reducible first | exact HB.out | apply below_alloc | apply pw_below_drewN | apply below_drew1 | refine below_set ?_ GE276.out | refine below_set ?_ GE290.out) | exact HB.out)⟩
      ·replace c98 := Bool.eq_false_iff.mpr c98
       subst c98
       have H1 : (some false) = some r := by rw [if_neg (show ¬ (false = true) by decide)] at H; exact H
       clear H
       have H := H1
       clear H1
       obtain rfl := Option.some.inj H
       obtain ⟨Ao112, co112, eo112⟩ := Kd.R_slice HO_5.out
       subst eo112
       have hnb113 := NB290_276.out
       have hnc113 := NB276_290.out
       have hcz114_0 : wr.cell? ⟨gb290, 0, none⟩ = some (.slice Ao18 t286.length co18) := (blk_cell BK290.out 0).trans rfl
       have hfz114_0 := blk_frozen BK290.out 0
       have hcz115_0 : wr.cell? ⟨gb276, 0, none⟩ = some (.slice Ao11 t277.length co11) := (blk_cell BK276.out 0).trans rfl
       have hfz115_0 := blk_frozen BK276.out 0
       go_wp2_with (first | (go_at_call 13; (with_reducible refine (graftwoodlaw10_same.calls k1 _ _ t286 _ _ t277 false _ ?side1 ?side2 ?side3 ?side4 A97.out).mono ?_); (case side1 => repeat (first | exact (Kd.V_reads' HO_291000.out).2.2 | (with_reducible refine Kd.C_alloc ?_ _) | (with_reducible refine Kd.C_drewN ?_ _) | (with_reducible refine Kd.C_drew ?_))); (case side2 => exact (Kd.V_reads' HO_291000.out).2.1); (case side3 => repeat (first | exact (Kd.R_reads' HO_277000.out).2.2 | (with_reducible refine Kd.C_alloc ?_ _) | (with_reducible refine Kd.C_drewN ?_ _) | (with_reducible refine Kd.C_drew ?_))); (case side4 => exact (Kd.R_reads' HO_277000.out).2.1); rintro e w116 ⟨rfl, hb⟩; have n0_ := Aside0.mk (Kd.R_below (by (with_reducible repeat (first | apply Kd.R_alloc | apply Kd.R_drewN | apply Kd.R_drew)); exact HO_1.out) hb); have n1_ := Aside0.mk (Kd.R_below (by (with_reducible repeat (first | apply Kd.R_alloc | apply Kd.R_drewN | apply Kd.R_drew)); exact HO_5.out) hb); have n2_ := Aside0.mk (Kd.R_below (by (with_reducible repeat (first | apply Kd.R_alloc | apply Kd.R_drewN | apply Kd.R_drew)); exact HO_277000.out) hb); have n3_ := Aside0.mk (Kd.V_below (by (with_reducible repeat (first | apply Kd.V_alloc | apply Kd.V_drewN | apply Kd.V_drew)); exact HO_291000.out) hb); have n4_ := Aside0.mk (blk_below (g := gb276) (o := .cells #[.slice Ao11 t277.length co11] 24 (0, 0)) (by (with_reducible repeat (first | refine blk_drewN ?_ _ | refine blk_drew ?_ | refine blk_alloc ?_ _)); exact BK276.out) hb); have n5_ := Aside0.mk (blk_below (g := gb290) (o := .cells #[.slice Ao18 t286.length co18] 24 (0, 0)) (by (with_reducible repeat (first | refine blk_drewN ?_ _ | refine blk_drew ?_ | refine blk_alloc ?_ _)); exact BK290.out) hb); have n6_ := Aside0.mk (below_step (by repeat (first | (with_reducible first | exact HB.out | apply below_alloc | apply pw_below_drewN | apply below_drew1 | refine below_set ?_ GE276.out | refine below_set ?_ GE290.out) | exact HB.out)) hb); clear HO_1; clear HO_5; clear HO_277000; clear HO_291000; clear BK276; clear BK290; clear HB; have HO_1 := n0_; have HO_5 := n1_; have HO_277000 := n2_; have HO_291000 := n3_; have BK276 := n4_; have BK290 := n5_; have HB := n6_; clear n0_ n1_ n2_ n3_ n4_ n5_ n6_; (try clear hb); (try clear hb2); (try clear hk); (try clear hi)))
       go_ret
       exact ⟨by first | rfl | (simp [errW_none, errW_some] <;> rfl) | (simp [*, errW_none, errW_some] <;> rfl), by repeat (first | (with_reducible first | exact HB.out | apply below_alloc | apply pw_below_drewN | apply below_drew1 | refine below_set ?_ GE276.out | refine below_set ?_ GE290.out) | exact HB.out)⟩
     ·rw [if_neg c96] at H
      have c96b0 : ((t283.length : Int) == 0) = false := beq_eq_false_iff_ne.mpr c96
      have c96b1 : ((t283.length : Int) != 0) = true := bne_iff_ne.mpr c96
      have c96b2 : ¬ (t283 = []) := fun h_ => c96 (by rw [h_]; rfl)
      obtain rfl := Option.some.inj H
      obtain ⟨Ao117, co117, eo117⟩ := Kd.R_slice HO_5.out
      subst eo117
      go_wp2
      go_ret
      exact ⟨by first | rfl | (simp [errW_none, errW_some] <;> rfl) | (simp [*, errW_none, errW_some] <;> rfl), by repeat (first | (with_reducible first | exact HB.out | apply below_alloc | apply pw_below_drewN | apply below_drew1 | refine below_set ?_ GE276.out | refine below_set ?_ GE290.out) | exact HB.out)⟩

end Go.Proofs.YtjneghnknfhboaaDoor.P
