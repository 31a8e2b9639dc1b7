-- Written by this project's own program (wip/tools/hp.py), driving the kit's print; hand texts among it. Not trusted: Lean checks it.
-- half the indentation
import Derived.Test.YtomjppafgalaoaaDoorThin
import Derived.Test.YtomjppafgalaoaaDoorP0
import Derived.Test.YtomjppafgalaoaaDoorP3
import Derived.Test.YtomjppafgalaoaaDoorP20
import Derived.Test.YtomjppafgalaoaaDoorP23
import Derived.Test.YtomjppafgalaoaaDoorP24
import Derived.Test.YtomjppafgalaoaaDoorP26
namespace Go.Proofs.YtomjppafgalaoaaDoor.P
open Go.RowKit Go.Proofs.YtomjppafgalaoaaDoorW.PrintWords Go.Proofs.YtomjppafgalaoaaDoorW.PrintLast Go.Proofs.YtomjppafgalaoaaDoorW.PrintMore
attribute [local go_sem] max2_int min2_int max_two min_two max_three min_three max_four min_four   -- for this text's walks alone
set_option linter.unusedVariables false
set_option linter.unusedSimpArgs false

/-! ### graftwoodlaw12_StoreEmpties: function 6 -/
def graftwoodlaw12_StoreEmpties.l0 : Nat → Int → Int → Int → List (S27) → List ByteArray → List (S27) → List ByteArray → List (S27) → List ByteArray → Option (Bool)
 | 0, _, _, _, _, _, _, _, _, _ => none
 | k + 1, x1, x5, x8, bl, bF, bR, bS, bU, bV => if x8 < x5 then (if x5 = 0 then (none) else (if 0 ≤ (Int.tmod (wrap64 (x8 + (wrap64 (x1)))) x5) then (if (Int.tmod (wrap64 (x8 + (wrap64 (x1)))) x5) < (bl.length : Int) then ((store_Drop.f k bR bS ((rd_T27 bl (Int.tmod (wrap64 (x8 + (wrap64 (x1)))) x5)).f0) ((rd_T27 bl (Int.tmod (wrap64 (x8 + (wrap64 (x1)))) x5)).f1)).bind fun bt394 => (if (Int.tmod (wrap64 (x8 + (wrap64 (x1)))) x5) < (bF.length : Int) then ((store_Put.f k bU bV ((rd_T27 bl (Int.tmod (wrap64 (x8 + (wrap64 (x1)))) x5)).f0) ((rd_T27 bl (Int.tmod (wrap64 (x8 + (wrap64 (x1)))) x5)).f1) (rdOf ByteArray.empty bF (Int.tmod (wrap64 (x8 + (wrap64 (x1)))) x5))).bind fun bt404 => (if bt394.2.2 = 0 then (if bt404.2.2 = 0 then (graftwoodlaw12_StoreEmpties.l0 k x1 x5 (wrap64 (x8 + 1)) bl bF bt394.1 bt394.2.1 bt404.1 bt404.2.1) else (some false)) else (some false))) else (none))) else (none)) else (none))) else (if (bR.length : Int) = 0 then (if (bS.length : Int) = 0 then ((store_Same.f k bU bV bl bF).bind fun b_ => (if b_ = true then ((graftwoodlaw12_awake.f k).bind fun bN => (some bN)) else (some false))) else (some false)) else (some false))
def graftwoodlaw12_StoreEmpties.f (k : Nat) (l0_0 : List (S27)) (l0_1 : List ByteArray) (a1 : Int) : Option (Bool) := (graftwoodlaw12_Few.f k l0_0 l0_1).bind fun bt381 => ((store_Check.f k bt381.1 bt381.2).bind fun bw => (if bw = 0 then (graftwoodlaw12_StoreEmpties.l0 k a1 (mn (bt381.1.length : Int) (bt381.2.length : Int)) 0 bt381.1 bt381.2 bt381.1 bt381.2 ([] : List (S27)) ([] : List ByteArray)) else ((graftwoodlaw12_awake.f k).bind fun bK => (some bK))))
theorem graftwoodlaw12_StoreEmpties.mono_l : ∀ k, (∀ y0 y1 y2 y3 y4 y5 y6 y7 y8, LeO (graftwoodlaw12_StoreEmpties.l0 k y0 y1 y2 y3 y4 y5 y6 y7 y8) (graftwoodlaw12_StoreEmpties.l0 (k + 1) y0 y1 y2 y3 y4 y5 y6 y7 y8))
 | 0 => fun _ _ _ _ _ _ _ _ _ r h => by simp [graftwoodlaw12_StoreEmpties.l0] at h
 | k + 1 => by
  have ih0 := graftwoodlaw12_StoreEmpties.mono_l k
  ·intro y0 y1 y2 y3 y4 y5 y6 y7 y8
   unfold graftwoodlaw12_StoreEmpties.l0
   repeat' first
   | (with_reducible exact ih0 _ _ _ _ _ _ _ _ _)
   | (with_reducible exact graftwoodlaw12_Few.mono _ _ _)
   | (with_reducible exact graftwoodlaw12_awake.mono _)
   | (with_reducible exact store_Check.mono _ _ _)
   | (with_reducible exact store_Drop.mono _ _ _ _ _)
   | (with_reducible exact store_Put.mono _ _ _ _ _ _)
   | (with_reducible exact store_Same.mono _ _ _ _ _)
   | (with_reducible exact LeO.refl _)
   | (with_reducible exact LeO.none _)
   | (with_reducible refine LeO.ite ?_ ?_)
   | (with_reducible refine LeO.bind ?_ (fun _ => ?_))
   | exact ih0 _ _ _ _ _ _ _ _ _
   | exact graftwoodlaw12_Few.mono _ _ _
   | exact graftwoodlaw12_awake.mono _
   | exact store_Check.mono _ _ _
   | exact store_Drop.mono _ _ _ _ _
   | exact store_Put.mono _ _ _ _ _ _
   | exact store_Same.mono _ _ _ _ _
   | exact LeO.none _
   | refine LeO.ite ?_ ?_
   | refine LeO.bind ?_ (fun _ => ?_)
theorem graftwoodlaw12_StoreEmpties.mono : ∀ a0 a1 a2 k, LeO (graftwoodlaw12_StoreEmpties.f k a0 a1 a2) (graftwoodlaw12_StoreEmpties.f (k + 1) a0 a1 a2) := by
 intro a0 a1 a2 k
 have ih0 := graftwoodlaw12_StoreEmpties.mono_l k
 unfold graftwoodlaw12_StoreEmpties.f
 repeat' first
   | (with_reducible exact ih0 _ _ _ _ _ _ _ _ _)
   | (with_reducible exact graftwoodlaw12_Few.mono _ _ _)
   | (with_reducible exact graftwoodlaw12_awake.mono _)
   | (with_reducible exact store_Check.mono _ _ _)
   | (with_reducible exact store_Drop.mono _ _ _ _ _)
   | (with_reducible exact store_Put.mono _ _ _ _ _ _)
   | (with_reducible exact store_Same.mono _ _ _ _ _)
   | (with_reducible exact LeO.refl _)
   | (with_reducible exact LeO.none _)
   | (with_reducible refine LeO.ite ?_ ?_)
   | (with_reducible refine LeO.bind ?_ (fun _ => ?_))
   | exact ih0 _ _ _ _ _ _ _ _ _
   | exact graftwoodlaw12_Few.mono _ _ _
   | exact graftwoodlaw12_awake.mono _
   | exact store_Check.mono _ _ _
   | exact store_Drop.mono _ _ _ _ _
   | exact store_Put.mono _ _ _ _ _ _
   | exact store_Same.mono _ _ _ _ _
   | exact LeO.none _
   | refine LeO.ite ?_ ?_
   | refine LeO.bind ?_ (fun _ => ?_)
def graftwoodlaw12_StoreEmpties.T10 : Bool × List (List Nat × List Nat) := (true, [([], []), ([], []), ([1], [1]), ([], []), ([2, 3], [2, 3]), ([4], [4]), ([0, 5], [0, 5]), ([6], [6]), ([7], [7]), ([7], [7]), ([], []), ([10, 8, 6, 0, 1, 2, 3, 4, 5, 6, 7, 8, 10], [8, 10]), ([9, 11, 0, 1, 2, 3, 4, 5, 6, 7, 8, 9, 10, 11], [9])])
def graftwoodlaw12_StoreEmpties.B10 : List Nat := [0, 0, 2, 0, 14, 30, 63, 127, 255, 255, 0, 1535, 4095]
theorem graftwoodlaw12_StoreEmpties.tab10 : rtab .any (opsOf Tryd.f6 10) = graftwoodlaw12_StoreEmpties.T10 := by kernel_rfl
theorem graftwoodlaw12_StoreEmpties.bits10 : waitsOk graftwoodlaw12_StoreEmpties.T10.2 graftwoodlaw12_StoreEmpties.B10 = true := by kernel_rfl
def graftwoodlaw12_StoreEmpties.T11 : Bool × List (List Nat × List Nat) := (true, [([], []), ([], []), ([1], [1]), ([], []), ([2, 3], [2, 3]), ([4], [4]), ([], []), ([6], [6]), ([], []), ([7, 8], [7, 8]), ([9], [9]), ([0, 5, 10], [0, 5, 10]), ([11], [11]), ([12], [12]), ([12], [12]), ([], []), ([15, 13, 11, 0, 1, 2, 3, 4, 5, 6, 7, 8, 9, 10, 11, 12, 13, 15], [13, 15]), ([14, 16, 0, 1, 2, 3, 4, 5, 6, 7, 8, 9, 10, 11, 12, 13, 14, 15, 16], [14])])
def graftwoodlaw12_StoreEmpties.B11 : List Nat := [0, 0, 2, 0, 14, 30, 0, 64, 0, 448, 960, 2047, 4095, 8191, 8191, 0, 49151, 131071]
theorem graftwoodlaw12_StoreEmpties.tab11 : rtab .any (opsOf Tryd.f6 11) = graftwoodlaw12_StoreEmpties.T11 := by kernel_rfl
theorem graftwoodlaw12_StoreEmpties.bits11 : waitsOk graftwoodlaw12_StoreEmpties.T11.2 graftwoodlaw12_StoreEmpties.B11 = true := by kernel_rfl
set_option maxHeartbeats 8000000 in
set_option maxRecDepth 100000 in
theorem graftwoodlaw12_StoreEmpties.calls (k : Nat) (bC : Option Addr) (bD : Nat) (l0_0 : List (S27)) (bx : Option Addr) (bz : Nat) (l0_1 : List ByteArray) (a1 : Int) (r : Bool) (w : World) (hr0_0 : Kd.C k27 w bC l0_0.length l0_0) (hc0_0 : l0_0.length ≤ bD) (hr0_1 : Kd.C Kd.string w bx l0_1.length l0_1) (hc0_1 : l0_1.length ≤ bz) (h : graftwoodlaw12_StoreEmpties.f k l0_0 l0_1 a1 = some r) (hR_ : r = true) :
  Calls Tryd.prog 6 #[.agg #[.slice bC l0_0.length bD, .slice bx l0_1.length bz], .int .u8 a1] w fun e w' => e = .returned (.bool r) ∧ Below w.heap.size w w' := by
 have hu25 := Tryd.underlying25
 have hu27 := Tryd.underlying27
 have cr := Aside0.mk hr0_0
 have ct := Aside0.mk hc0_0
 clear hr0_0 hc0_0
 have cu := Aside0.mk hr0_1
 have cv := Aside0.mk hc0_1
 clear hr0_1 hc0_1
 have HB := am (Below.refl w.heap.size w)
 have H : ((graftwoodlaw12_Few.f k l0_0 l0_1).bind fun bt381 => ((store_Check.f k bt381.1 bt381.2).bind fun bw => (if bw = 0 then (graftwoodlaw12_StoreEmpties.l0 k a1 (mn (bt381.1.length : Int) (bt381.2.length : Int)) 0 bt381.1 bt381.2 bt381.1 bt381.2 ([] : List (S27)) ([] : List ByteArray)) else ((graftwoodlaw12_awake.f k).bind fun bK => (some bK))))) = some r := h
 clear h
 replace H := Option.bind_eq_some_iff.mp H
 obtain ⟨⟨ap, au⟩, A30, H⟩ := H
 replace H : ((store_Check.f k ap au).bind fun bw => (if bw = 0 then (graftwoodlaw12_StoreEmpties.l0 k a1 (mn (ap.length : Int) (au.length : Int)) 0 ap au ap au ([] : List (S27)) ([] : List ByteArray)) else ((graftwoodlaw12_awake.f k).bind fun bK => (some bK)))) = some r := H
 have A3 := Aside0.mk A30
 clear A30
 replace H := Option.bind_eq_some_iff.mp H
 obtain ⟨bw, A40, H⟩ := H
 replace H : (if bw = 0 then (graftwoodlaw12_StoreEmpties.l0 k a1 (mn (ap.length : Int) (au.length : Int)) 0 ap au ap au ([] : List (S27)) ([] : List ByteArray)) else ((graftwoodlaw12_awake.f k).bind fun bK => (some bK))) = some r := H
 have A4 := Aside0.mk A40
 clear A40
 by_cases c5 : bw = 0
 ·rw [if_pos c5] at H
  have cH : (bw == 0) = true := beq_iff_eq.mpr c5
  have cI : (bw != 0) = false := bne_eq_false_iff_eq.mpr c5
  clear c5
  obtain ⟨ji6, bQ⟩ : ∃ j_ : Int, (mn (ap.length : Int) (au.length : Int)) = j_ := ⟨_, rfl⟩
  replace H : (graftwoodlaw12_StoreEmpties.l0 k a1 ji6 0 ap au ap au ([] : List (S27)) ([] : List ByteArray)) = some r := by first | (rw [bQ] at H; exact H) | (simp only [bQ] at H ⊢; exact H)
  (try rw [bQ] at A3)
  (try rw [bQ] at A4)
  (try (have eN : 0 ≤ ji6 := by (rw [← bQ]; unfold mn; (repeat' split) <;> omega)))
  (try (have eO : 0 ≤ ji6 := by omega))
  have cJ : (if (au.length : Int) < (ap.length : Int) then (au.length : Int) else (ap.length : Int)) = ji6 := bQ
  (try (have cK := cJ; simp only [Int.ofNat_lt] at cK))
  have H' := Aside0.mk H
  clear H
  go_enter Tryd.func6, Tryd.ntmps6
  go_wp2_with (first | ((with_reducible refine gate_dst (N := 2) rfl ?_); (try (refine gate_guard (by rfl) ?_; dsimp only)); refine box_event ?hg (N := 2) ?hd (cs := #[.slice bC l0_0.length bD, .slice bx l0_1.length bz]) (t := 25) ?hr ?_; (case hd => rfl); (case hg => rfl); (case hr => first | (go_simp; done) | (go_simp; rfl)); intro aj hg w7 hbox hb; have ac := am (hbox); have cL := am ((by rw [hg]; exact (below_size (by repeat (first | (with_reducible first | exact HB.out | apply pA | apply pN | apply pD) | exact HB.out))) : w.heap.size ≤ aj)); have cM := am ((by rw [hg]; exact (below_size (by repeat (first | (with_reducible first | exact HB.out | apply pA | apply pN | apply pD) | exact HB.out))) : w.heap.size ≤ aj)); replace HB := am (below_step (by repeat (first | (with_reducible first | exact HB.out | apply pA | apply pN | apply pD) | exact HB.out)) hb); clear hb hbox hg; have cz : w7.cell? ⟨aj, 0, none⟩ = some (.slice bC l0_0.length bD) := (blk_cell ac.out 0).trans rfl; have cA : w7.cell? ⟨aj, 1, none⟩ = some (.slice bx l0_1.length bz) := (blk_cell ac.out 1).trans rfl; have cB := blk_frozen ac.out 0; have cC := blk_frozen ac.out 1) | ((with_reducible refine gate_callee (f := 7) rfl ?_); refine goesL_ (some 15) rfl rfl Tryd.func7 (by kernel_rfl) rfl #[.agg #[.slice bC l0_0.length bD, .slice bx l0_1.length bz]] rfl (by (try simp only [List.map_toArray, List.map_cons, List.map_nil]); first | done | rfl | (simp only [List.length_drop, List.length_take]; rfl)) ?_; (with_reducible refine (graftwoodlaw12_Few.calls k _ _ l0_0 _ _ l0_1 ap au _ ?side1 ?side2 ?side3 ?side4 A3.out).mono ?_); (case side1 => repeat (first | exact (Kd.C_below cr.out HB.out) | (with_reducible refine Kd.C_alloc ?_ _) | (with_reducible refine Kd.C_drewN ?_ _) | (with_reducible refine Kd.C_drew ?_))); (case side2 => exact ct.out); (case side3 => repeat (first | exact (Kd.C_below cu.out HB.out) | (with_reducible refine Kd.C_alloc ?_ _) | (with_reducible refine Kd.C_drewN ?_ _) | (with_reducible refine Kd.C_drew ?_))); (case side4 => exact cv.out); rintro e w9 ⟨eu, ev, rfl, ho0, ho1, hb⟩; refine ⟨_, rfl, ?_⟩; have bb := am (Kd.R_lower ho0 (below_size (by repeat (first | (with_reducible first | exact HB.out | apply pA | apply pN | apply pD | refine eU ?_ (by assumption)) | exact HB.out)))); have bc := am (Kd.R_lower ho1 (below_size (by repeat (first | (with_reducible first | exact HB.out | apply pA | apply pN | apply pD | refine eU ?_ (by assumption)) | exact HB.out)))); replace ac := am (bB ac.out hb); replace HB := am (below_step (by repeat (first | (with_reducible first | exact HB.out | apply pA | apply pN | apply pD | refine eU ?_ (by assumption)) | exact HB.out)) hb); (try clear hb); (try clear hb2); (try clear hk); (try clear hi); (try clear ho0); (try clear ho1); obtain ⟨bm, aA, ew⟩ := Kd.R_slice bb.out; subst ew; have ca : w9.cell? ⟨aj, 0, none⟩ = some (.slice bC l0_0.length bD) := (blk_cell ac.out 0).trans rfl; have cb : w9.cell? ⟨aj, 1, none⟩ = some (.slice bx l0_1.length bz) := (blk_cell ac.out 1).trans rfl; have cc := blk_frozen ac.out 0; have cd := blk_frozen ac.out 1; obtain ⟨a7, aB, ex⟩ := Kd.R_slice bc.out; subst ex) | ((with_reducible refine gate_callee (f := 13) rfl ?_); refine goesL_ (some 17) rfl rfl Tryd.func13 (by kernel_rfl) rfl #[.agg #[.slice bm ap.length aA, .slice a7 au.length aB]] rfl (by (try simp only [List.map_toArray, List.map_cons, List.map_nil]); first | done | rfl | (simp only [List.length_drop, List.length_take]; rfl)) ?_; (with_reducible refine (store_Check.calls k _ _ ap _ _ au bw _ ?side1 ?side2 ?side3 ?side4 A4.out).mono ?_); (case side1 => refine (Kd.R_reads' (e := 27) (base := w.heap.size) (ok := fun k_ => True) (n := ap.length) (c := aA) ?_).2.2; exact (by (with_reducible repeat (first | apply Kd.R_alloc | apply Kd.R_drewN | apply Kd.R_drew)); exact (Kd.R_mono (Kd.R_far (p := ⟨aj, 1, none⟩) (Kd.R_far (p := ⟨aj, 0, none⟩) (Kd.R_types bb.out ac.out (by decide)) (fun _ hk => hk.2) (.slice bm ap.length aA)) (fun _ hk => hk.2) (.slice a7 au.length aB)) (fun _ h_ => h_.1)))); (case side2 => exact (Kd.R_reads' bb.out).2.1); (case side3 => refine (Kd.R_reads' (e := 9) (base := w.heap.size) (ok := fun k_ => True) (n := au.length) (c := aB) ?_).2.2; exact (by (with_reducible repeat (first | apply Kd.R_alloc | apply Kd.R_drewN | apply Kd.R_drew)); exact (Kd.R_mono (Kd.R_far (p := ⟨aj, 1, none⟩) (Kd.R_far (p := ⟨aj, 0, none⟩) (Kd.R_types bc.out ac.out (by decide)) (fun _ hk => hk.2) (.slice bm ap.length aA)) (fun _ hk => hk.2) (.slice a7 au.length aB)) (fun _ h_ => h_.1)))); (case side4 => exact (Kd.R_reads' bc.out).2.1); rintro e w13 ⟨rfl, hb⟩; refine ⟨_, rfl, ?_⟩; replace bb := am (Kd.R_below (by (with_reducible repeat (first | apply Kd.R_alloc | apply Kd.R_drewN | apply Kd.R_drew)); exact (Kd.R_mono (Kd.R_far (p := ⟨aj, 1, none⟩) (Kd.R_far (p := ⟨aj, 0, none⟩) (Kd.R_types bb.out ac.out (by decide)) (fun _ hk => hk.2) (.slice bm ap.length aA)) (fun _ hk => hk.2) (.slice a7 au.length aB)) (fun _ h_ => h_.1))) hb); replace bc := am (Kd.R_below (by (with_reducible repeat (first | apply Kd.R_alloc | apply Kd.R_drewN | apply Kd.R_drew)); exact (Kd.R_mono (Kd.R_far (p := ⟨aj, 1, none⟩) (Kd.R_far (p := ⟨aj, 0, none⟩) (Kd.R_types bc.out ac.out (by decide)) (fun _ hk => hk.2) (.slice bm ap.length aA)) (fun _ hk => hk.2) (.slice a7 au.length aB)) (fun _ h_ => h_.1))) hb); replace HB := am (below_step (by repeat (first | (with_reducible first | exact HB.out | apply pA | apply pN | apply pD | refine eU ?_ (by assumption)) | exact HB.out)) hb); replace ac := am (blk_below (g := aj) (o := .cells #[.slice bm ap.length aA, .slice a7 au.length aB] 25 (0, 0)) (by (with_reducible repeat (first | apply bn | apply bd | apply ba)); refine blk_put (cs := #[.slice bm ap.length aA, .slice bx l0_1.length bz]) ?_ 1 _ rfl; (with_reducible repeat (first | apply bn | apply bd | apply ba)); refine blk_put (cs := #[.slice bC l0_0.length bD, .slice bx l0_1.length bz]) ?_ 0 _ rfl; exact bT ac.out) hb); (try clear hb); (try clear hb2); (try clear hk); (try clear hi); have ce : w13.cell? ⟨aj, 0, none⟩ = some (.slice bm ap.length aA) := (blk_cell ac.out 0).trans rfl; have cf : w13.cell? ⟨aj, 1, none⟩ = some (.slice a7 au.length aB) := (blk_cell ac.out 1).trans rfl; have cg := blk_frozen ac.out 0; have ch := blk_frozen ac.out 1) | ((with_reducible refine gate_dst (N := 6) rfl ?_); (try (refine gate_guard (by rfl) ?_; dsimp only)); refine box_event ?hg (N := 6) ?hd (cs := #[.slice none 0 0, .slice none 0 0]) (t := 25) ?hr ?_; (case hd => rfl); (case hg => rfl); (case hr => first | (go_simp; done) | (go_simp; rfl)); intro ak hg w15 hbox hb; replace bb := am (rB bb.out hb); replace bc := am (rB bc.out hb); have an := am (hbox); have eP := am ((by rw [hg]; exact (below_size (by repeat (first | (with_reducible first | exact HB.out | apply pA | apply pN | apply pD | refine eU ?_ (by assumption)) | exact HB.out))) : w.heap.size ≤ ak)); have eQ := am ((by rw [hg]; exact (below_size (by repeat (first | (with_reducible first | exact HB.out | apply pA | apply pN | apply pD | refine eU ?_ (by assumption)) | exact HB.out))) : w.heap.size ≤ ak)); have a8 := am ((nT ac.out hg)); have bq := am ((mT ac.out hg)); replace ac := am (bB ac.out hb); replace HB := am (below_step (by repeat (first | (with_reducible first | exact HB.out | apply pA | apply pN | apply pD | refine eU ?_ (by assumption)) | exact HB.out)) hb); clear hb hbox hg) | ((with_reducible refine gate_dst (N := 7) rfl ?_); (try (refine gate_guard (by rfl) ?_; dsimp only)); refine box_event ?hg (N := 7) ?hd (cs := #[.slice none 0 0, .slice none 0 0]) (t := 25) ?hr ?_; (case hd => rfl); (case hg => rfl); (case hr => first | (go_simp; done) | (go_simp; rfl)); intro al hg w16 hbox hb; replace bb := am (rB bb.out hb); replace bc := am (rB bc.out hb); have ao := am (hbox); have eR := am ((by rw [hg]; exact (below_size (by repeat (first | (with_reducible first | exact HB.out | apply pA | apply pN | apply pD | refine eU ?_ (by assumption)) | exact HB.out))) : w.heap.size ≤ al)); have eS := am ((by rw [hg]; exact (below_size (by repeat (first | (with_reducible first | exact HB.out | apply pA | apply pN | apply pD | refine eU ?_ (by assumption)) | exact HB.out))) : w.heap.size ≤ al)); have a9 := am ((nT ac.out hg)); have br := am ((mT ac.out hg)); have aY := am ((nT an.out hg)); have aZ := am ((mT an.out hg)); replace ac := am (bB ac.out hb); replace an := am (bB an.out hb); replace HB := am (below_step (by repeat (first | (with_reducible first | exact HB.out | apply pA | apply pN | apply pD | refine eU ?_ (by assumption)) | exact HB.out)) hb); clear hb hbox hg; have eV := bq.out; have eW := a8.out; have eX := aY.out; have eY := aZ.out; have ci : w16.cell? ⟨ak, 0, none⟩ = some (.slice none 0 0) := (blk_cell an.out 0).trans rfl; have cj : w16.cell? ⟨ak, 1, none⟩ = some (.slice none 0 0) := (blk_cell an.out 1).trans rfl; have ck := blk_frozen an.out 0; have cl := blk_frozen an.out 1; have eZ := br.out; have e0 := a9.out; have cm : w16.cell? ⟨al, 0, none⟩ = some (.slice none 0 0) := (blk_cell ao.out 0).trans rfl; have cn : w16.cell? ⟨al, 1, none⟩ = some (.slice none 0 0) := (blk_cell ao.out 1).trans rfl; have co := blk_frozen ao.out 0; have cp := blk_frozen ao.out 1))
  go_loopg [8] k (fun kq v8 w' => ∃ (bG : Int) (ar : List (S27)) (aq : List ByteArray) (ax : List (S27)) (av : List ByteArray) (u390000 : Value) (u390001 : Value) (u391000 : Value) (u391001 : Value), v8 = .int .i64 bG ∧ Aside0 (graftwoodlaw12_StoreEmpties.l0 kq a1 ji6 bG ap au ar aq ax av = some r) ∧ Aside0 (kq ≤ k) ∧ Aside0 (Kd.R k27 27 w' w.heap.size (fun _ => True) (.slice bm ap.length aA) ap) ∧ Aside0 (Kd.R Kd.string 9 w' w.heap.size (fun _ => True) (.slice a7 au.length aB) au) ∧ Aside0 (Kd.V k27 27 w' w.heap.size (fun k_ => k_ ≠ aj ∧ k_ ≠ ak ∧ k_ ≠ al) u390000 ar) ∧ Aside0 (Kd.V Kd.string 9 w' w.heap.size (fun k_ => k_ ≠ aj ∧ k_ ≠ ak ∧ k_ ≠ al) u390001 aq) ∧ Aside0 (Kd.V k27 27 w' w.heap.size (fun k_ => some k_ ≠ ((.slice bm ap.length aA) : Value).ownBlock ∧ some k_ ≠ ((.slice a7 au.length aB) : Value).ownBlock ∧ k_ ≠ aj ∧ k_ ≠ ak ∧ k_ ≠ al) u391000 ax) ∧ Aside0 (Kd.V Kd.string 9 w' w.heap.size (fun k_ => some k_ ≠ ((.slice bm ap.length aA) : Value).ownBlock ∧ some k_ ≠ ((.slice a7 au.length aB) : Value).ownBlock ∧ k_ ≠ aj ∧ k_ ≠ ak ∧ k_ ≠ al) u391001 av) ∧ Aside0 (w'.heap[aj]? = some (.cells #[(.slice bm ap.length aA), (.slice a7 au.length aB)] 25 (0, 0))) ∧ Aside0 (w'.heap[ak]? = some (.cells #[u390000, u390001] 25 (0, 0))) ∧ Aside0 (w'.heap[al]? = some (.cells #[u391000, u391001] 25 (0, 0))) ∧ Aside0 (Below w.heap.size w w'))
  case atStart => exact ⟨(0), (ap), (au), (([] : List (S27))), (([] : List ByteArray)), (.slice bm ap.length aA), (.slice a7 au.length aB), (.slice none 0 0), (.slice none 0 0), (by first | rfl | (simp; done) | (simp [*]; done)), H', ⟨Nat.le_refl _⟩, ⟨by (with_reducible repeat (first | apply Kd.R_alloc | apply Kd.R_drewN | apply Kd.R_drew)); exact Kd.R_mono (Kd.R_far (p := ⟨al, 1, none⟩) (Kd.R_far (p := ⟨al, 0, none⟩) (Kd.R_far (p := ⟨ak, 1, none⟩) (Kd.R_far (p := ⟨ak, 0, none⟩) (Kd.R_types (Kd.R_types bb.out an.out (by decide)) ao.out (by decide)) (fun _ hk => hk.1.2) (.slice bm ap.length aA)) (fun _ hk => hk.1.2) (.slice a7 au.length aB)) (fun _ hk => hk.2) (.slice none 0 0)) (fun _ hk => hk.2) (.slice none 0 0)) (fun _ hk => trivial)⟩, ⟨by (with_reducible repeat (first | apply Kd.R_alloc | apply Kd.R_drewN | apply Kd.R_drew)); exact Kd.R_mono (Kd.R_far (p := ⟨al, 1, none⟩) (Kd.R_far (p := ⟨al, 0, none⟩) (Kd.R_far (p := ⟨ak, 1, none⟩) (Kd.R_far (p := ⟨ak, 0, none⟩) (Kd.R_types (Kd.R_types bc.out an.out (by decide)) ao.out (by decide)) (fun _ hk => hk.1.2) (.slice bm ap.length aA)) (fun _ hk => hk.1.2) (.slice a7 au.length aB)) (fun _ hk => hk.2) (.slice none 0 0)) (fun _ hk => hk.2) (.slice none 0 0)) (fun _ hk => trivial)⟩, ⟨Kd.R_V (by (with_reducible repeat (first | apply Kd.R_alloc | apply Kd.R_drewN | apply Kd.R_drew)); exact Kd.R_mono (Kd.R_far (p := ⟨al, 1, none⟩) (Kd.R_far (p := ⟨al, 0, none⟩) (Kd.R_far (p := ⟨ak, 1, none⟩) (Kd.R_far (p := ⟨ak, 0, none⟩) (Kd.R_types (Kd.R_types (Kd.R_types (Kd.R_types (Kd.R_types bb.out ac.out (by decide)) an.out (by decide)) ao.out (by decide)) an.out (by decide)) ao.out (by decide)) (fun _ hk => hk.1.2) (.slice bm ap.length aA)) (fun _ hk => hk.1.2) (.slice a7 au.length aB)) (fun _ hk => hk.2) (.slice none 0 0)) (fun _ hk => hk.2) (.slice none 0 0)) (fun _ hk => ⟨hk.1.1.1.1.2, ⟨hk.1.1.1.2, hk.1.1.2⟩⟩))⟩, ⟨Kd.R_V (by (with_reducible repeat (first | apply Kd.R_alloc | apply Kd.R_drewN | apply Kd.R_drew)); exact Kd.R_mono (Kd.R_far (p := ⟨al, 1, none⟩) (Kd.R_far (p := ⟨al, 0, none⟩) (Kd.R_far (p := ⟨ak, 1, none⟩) (Kd.R_far (p := ⟨ak, 0, none⟩) (Kd.R_types (Kd.R_types (Kd.R_types (Kd.R_types (Kd.R_types bc.out ac.out (by decide)) an.out (by decide)) ao.out (by decide)) an.out (by decide)) ao.out (by decide)) (fun _ hk => hk.1.2) (.slice bm ap.length aA)) (fun _ hk => hk.1.2) (.slice a7 au.length aB)) (fun _ hk => hk.2) (.slice none 0 0)) (fun _ hk => hk.2) (.slice none 0 0)) (fun _ hk => ⟨hk.1.1.1.1.2, ⟨hk.1.1.1.2, hk.1.1.2⟩⟩))⟩, ⟨Kd.V_nil _ _ _ _ _⟩, ⟨Kd.V_nil _ _ _ _ _⟩, ⟨by (with_reducible repeat (first | apply bn | apply bd | apply ba)); refine blk_far ?_ a9.out _; (with_reducible repeat (first | apply bn | apply bd | apply ba)); refine blk_far ?_ a9.out _; (with_reducible repeat (first | apply bn | apply bd | apply ba)); refine blk_far ?_ a8.out _; (with_reducible repeat (first | apply bn | apply bd | apply ba)); refine blk_far ?_ a8.out _; exact bT ac.out⟩, ⟨by (with_reducible repeat (first | apply bn | apply bd | apply ba)); refine blk_far ?_ aY.out _; (with_reducible repeat (first | apply bn | apply bd | apply ba)); refine blk_far ?_ aY.out _; (with_reducible repeat (first | apply bn | apply bd | apply ba)); refine blk_put (cs := #[.slice bm ap.length aA, .slice none 0 0]) ?_ 1 _ rfl; (with_reducible repeat (first | apply bn | apply bd | apply ba)); refine blk_put (cs := #[.slice none 0 0, .slice none 0 0]) ?_ 0 _ rfl; exact bT an.out⟩, ⟨by (with_reducible repeat (first | apply bn | apply bd | apply ba)); refine blk_put (cs := #[.slice none 0 0, .slice none 0 0]) ?_ 1 _ rfl; (with_reducible repeat (first | apply bn | apply bd | apply ba)); refine blk_put (cs := #[.slice none 0 0, .slice none 0 0]) ?_ 0 _ rfl; (with_reducible repeat (first | apply bn | apply bd | apply ba)); refine blk_far ?_ aZ.out _; (with_reducible repeat (first | apply bn | apply bd | apply ba)); refine blk_far ?_ aZ.out _; exact bT ao.out⟩, ⟨by repeat (first | (with_reducible first | exact HB.out | apply pA | apply pN | apply pD | refine eU ?_ (by assumption)) | exact HB.out)⟩⟩
  case round =>
   clear H'
   try clear c1
   try clear c2
   try clear p2
   try clear c5
   try clear cH
   try clear cI
   try clear c6
   try clear c7
   try clear c13
   try clear c17
   try clear c18
   try clear c20
   try clear ca
   try clear cb
   try clear ce
   try clear cf
   try clear ci
   try clear cj
   try clear cm
   try clear cn
   try clear cz
   try clear cA
   try clear cc
   try clear cd
   try clear cg
   try clear ch
   try clear ck
   try clear cl
   try clear co
   try clear cp
   try clear cB
   try clear cC
   obtain ⟨bG, ar, aq, ax, av, u390000, u390001, u391000, u391001, rfl, HA, HK1, aa, ab, ag, ah, ae, af, ac, an, ao, HB⟩ := hrel
   cases gk with
   | zero => exact absurd HA.out (by simp [graftwoodlaw12_StoreEmpties.l0])
   | succ k1 =>
    have H := HA.out
    clear HA
    simp only [graftwoodlaw12_StoreEmpties.l0] at H
    by_cases c22 : bG < ji6
    ·rw [if_pos c22] at H
     have cN : decide (bG < ji6) = true := decide_eq_true c22
     clear c22
     by_cases c23 : ji6 = 0
     ·rw [if_pos c23] at H
      exact absurd H (by simp)
     ·rw [if_neg c23] at H
      have e1 : (ji6 == 0) = false := beq_eq_false_iff_ne.mpr c23
      have e2 : (ji6 != 0) = true := bne_iff_ne.mpr c23
      obtain ⟨ay, bL⟩ : ∃ j_ : Int, (Int.tmod (wrap64 (bG + (wrap64 (a1)))) ji6) = j_ := ⟨_, rfl⟩
      replace H : (if 0 ≤ (ay) then (if (ay) < (ap.length : Int) then ((store_Drop.f k1 ar aq ((rd_T27 ap (ay)).f0) ((rd_T27 ap (ay)).f1)).bind fun bt394 => (if (ay) < (au.length : Int) then ((store_Put.f k1 ax av ((rd_T27 ap (ay)).f0) ((rd_T27 ap (ay)).f1) (rdOf ByteArray.empty au (ay))).bind fun bt404 => (if bt394.2.2 = 0 then (if bt404.2.2 = 0 then (graftwoodlaw12_StoreEmpties.l0 k1 a1 ji6 (wrap64 (bG + 1)) ap au bt394.1 bt394.2.1 bt404.1 bt404.2.1) else (some false)) else (some false))) else (none))) else (none)) else (none)) = some r := by first | (rw [bL] at H; exact H) | (simp only [bL] at H ⊢; exact H)
      by_cases c25 : 0 ≤ (ay)
      ·rw [if_pos c25] at H
       have e3 : decide (0 ≤ (ay)) = true := decide_eq_true c25
       clear c25
       by_cases c26 : (ay) < (ap.length : Int)
       ·rw [if_pos c26] at H
        have e4 : decide ((ay) < (ap.length : Int)) = true := decide_eq_true c26
        clear c26
        replace H := Option.bind_eq_some_iff.mp H
        obtain ⟨⟨aG, aH, bE⟩, cO, H⟩ := H
        replace H : (if (ay) < (au.length : Int) then ((store_Put.f k1 ax av ((rd_T27 ap (ay)).f0) ((rd_T27 ap (ay)).f1) (rdOf ByteArray.empty au (ay))).bind fun bt404 => (if bE = 0 then (if bt404.2.2 = 0 then (graftwoodlaw12_StoreEmpties.l0 k1 a1 ji6 (wrap64 (bG + 1)) ap au aG aH bt404.1 bt404.2.1) else (some false)) else (some false))) else (none)) = some r := H
        have A27 := Aside0.mk cO
        clear cO
        by_cases c28 : (ay) < (au.length : Int)
        ·rw [if_pos c28] at H
         have e5 : decide ((ay) < (au.length : Int)) = true := decide_eq_true c28
         clear c28
         replace H := Option.bind_eq_some_iff.mp H
         obtain ⟨⟨aI, aP, bH⟩, cP, H⟩ := H
         replace H : (if bE = 0 then (if bH = 0 then (graftwoodlaw12_StoreEmpties.l0 k1 a1 ji6 (wrap64 (bG + 1)) ap au aG aH aI aP) else (some false)) else (some false)) = some r := H
         have A29 := Aside0.mk cP
         clear cP
         by_cases c30 : bE = 0
         ·rw [if_pos c30] at H
          have cQ : (bE == 0) = true := beq_iff_eq.mpr c30
          have cR : (bE != 0) = false := bne_eq_false_iff_eq.mpr c30
          clear c30
          by_cases c31 : bH = 0
          ·rw [if_pos c31] at H
           have cS : (bH == 0) = true := beq_iff_eq.mpr c31
           have cT : (bH != 0) = false := bne_eq_false_iff_eq.mpr c31
           clear c31
           have H' := Aside0.mk H
           clear H
           obtain ⟨bo, bp, ey⟩ := Kd.V_slice ag.out
           subst ey
           obtain ⟨bj, bk, ez⟩ := Kd.V_slice ah.out
           subst ez
           try go_wp2
           have n0_ := am (Kd.R_drew aa.out)
           have n1_ := am (Kd.R_drew ab.out)
           have n2_ := am (Kd.V_drew ag.out)
           have n3_ := am (Kd.V_drew ah.out)
           have n4_ := am (Kd.V_drew ae.out)
           have n5_ := am (Kd.V_drew af.out)
           have n6_ := am (blk_drew ac.out)
           have n7_ := am (blk_drew an.out)
           have n8_ := am (blk_drew ao.out)
           have n9_ := am (below_drew1 HB.out)
           clear aa ab ag ah ae af ac an ao HB
           have aa := n0_
           have ab := n1_
           have ag := n2_
           have ah := n3_
           have ae := n4_
           have af := n5_
           have ac := n6_
           have an := n7_
           have ao := n8_
           have HB := n9_
           clear n0_ n1_ n2_ n3_ n4_ n5_ n6_ n7_ n8_ n9_
           have p393 : 0 ≤ ((ay) : Int) := of_decide_eq_true (by first | (with_reducible assumption) | assumption)
           have q393 : (ay) < (ap.length : Int) := of_decide_eq_true (by first | (with_reducible assumption) | assumption)
           obtain ⟨ad393, e393, bW, bX⟩ := at_T27 (Kd.R_reads' aa.out).2.2 (ay) p393 q393
           cases e393
           replace p393 := eq_true p393
           replace q393 := eq_true q393
           refine start_ (n := 13) (S := fun w' => w'.cell? ⟨ak, 0, none⟩ = some (.slice bo ar.length bp) ∧ w'.cell? ⟨ak, 1, none⟩ = some (.slice bj aq.length bk) ∧ w'.cell? ⟨aj, 0, none⟩ = some (.slice (some ad393) ap.length aA) ∧ w'.cell? ⟨aj, 1, none⟩ = some (.slice a7 au.length aB) ∧ w'.cell? (ad393.add (((ay)).toNat * 2)) = some (.string ((rd_T27 ap (ay)).f0)) ∧ w'.cell? ⟨(ad393.add (((ay)).toNat * 2)).block, (ad393.add (((ay)).toNat * 2)).off + 1, none⟩ = some (.string ((rd_T27 ap (ay)).f1))) (ds := []) #[false, false, false, false, false, false, false, false, false, false, false, false, false] (by kernel_rfl) rfl rfl ⟨(blk_cell an.out 0).trans rfl, (blk_cell an.out 1).trans rfl, (blk_cell ac.out 0).trans rfl, (blk_cell ac.out 1).trans rfl, bW, bX⟩ (fun hHeld => ?_); refine with_tabW graftwoodlaw12_StoreEmpties.tab10 graftwoodlaw12_StoreEmpties.bits10 (fun HT_ HW_ => ?_)
           generalize wr.drew = w34 at aa ab ag ah ae af ac an ao HB bW bX hHeld ⊢
           refine pure_ (i := 1) (N := some 42) (v := ?_) (a' := ?_) #[false, true, false, false, false, false, false, false, false, false, false, false, false] rfl rfl (any_of HT_.out (by kernel_rfl)) (fun _ _ _ h => h) (Or.inl ⟨by rfl, ?_⟩) ?_ ?_
           rotate_left
           ·intro w'
            go_simp
            with_reducible rfl
           rotate_left
           ·simp only [pS]
            rfl
           refine pure_ (i := 3) (N := some 44) (v := ?_) (a' := ?_) #[false, true, false, true, false, false, false, false, false, false, false, false, false] rfl rfl (any_of HT_.out (by kernel_rfl)) (fun _ _ _ h => h) (Or.inl ⟨by rfl, ?_⟩) ?_ ?_
           rotate_left
           ·intro w'
            go_simp
            with_reducible rfl
           rotate_left
           ·simp only [pS]
            rfl
           refine take_ (i := 0) (N := some 41) (v := ?_) (a' := ?_) #[true, true, false, true, false, false, false, false, false, false, false, false, false] rfl rfl (take_ofW HT_.out HW_.out (by kernel_rfl)) (fun _ _ _ h => h) (Or.inl ⟨by rfl, ?_⟩) hHeld ?_ ?_
           rotate_left
           ·rintro w' ⟨s0, s1, s2, s3, s4, s5⟩
            go_simp
            with_reducible rfl
           rotate_left
           ·simp only [pS]
            rfl
           refine take_ (i := 2) (N := some 43) (v := ?_) (a' := ?_) #[true, true, true, true, false, false, false, false, false, false, false, false, false] rfl rfl (take_ofW HT_.out HW_.out (by kernel_rfl)) (fun _ _ _ h => h) (Or.inl ⟨by rfl, ?_⟩) hHeld ?_ ?_
           rotate_left
           ·rintro w' ⟨s0, s1, s2, s3, s4, s5⟩
            go_simp
            with_reducible rfl
           rotate_left
           ·simp only [pS]
            rfl
           refine pure_ (i := 4) (N := some 45) (v := ?_) (a' := ?_) #[true, true, true, true, true, false, false, false, false, false, false, false, false] rfl rfl (any_of HT_.out (by kernel_rfl)) (fun _ _ _ h => h) (Or.inl ⟨by rfl, ?_⟩) ?_ ?_
           rotate_left
           ·intro w'
            go_simp
            with_reducible rfl
           rotate_left
           ·simp only [pS]
            rfl
           refine take_ (i := 5) (N := some 46) (v := ?_) (a' := ?_) #[true, true, true, true, true, true, false, false, false, false, false, false, false] rfl rfl (take_ofW HT_.out HW_.out (by kernel_rfl)) (fun _ _ _ h => h) (Or.inl ⟨by rfl, ?_⟩) hHeld ?_ ?_
           rotate_left
           ·rintro w' ⟨s0, s1, s2, s3, s4, s5⟩
            go_simp
            with_reducible rfl
           rotate_left
           ·simp only [pS]
            rfl
           refine join_ (σ := Value × Value × Nat) 2 #[true, true, true, true, true, true, true, true, true, true, true, false, false] (fun s_ => [(47, .tuple #[.agg #[s_.1, s_.2.1], .int .i64 bE]), (10, .pointer (some ⟨s_.2.2, 0, none⟩)), (40, .tuple #[.agg #[s_.1, s_.2.1], .int .i64 bE]), (48, .agg #[s_.1, s_.2.1]), (49, .int .i64 bE)]) (fun s_ w' => (w'.cell? ⟨ak, 0, none⟩ = some (.slice bo ar.length bp) ∧ w'.cell? ⟨ak, 1, none⟩ = some (.slice bj aq.length bk) ∧ w'.cell? ⟨aj, 0, none⟩ = some (.slice (some ad393) ap.length aA) ∧ w'.cell? ⟨aj, 1, none⟩ = some (.slice a7 au.length aB) ∧ w'.cell? (ad393.add (((ay)).toNat * 2)) = some (.string ((rd_T27 ap (ay)).f0)) ∧ w'.cell? ⟨(ad393.add (((ay)).toNat * 2)).block, (ad393.add (((ay)).toNat * 2)).off + 1, none⟩ = some (.string ((rd_T27 ap (ay)).f1))) ∧ (Kd.V k27 27 w' w.heap.size (fun k_ => k_ ≠ aj ∧ k_ ≠ ak ∧ k_ ≠ al ∧ k_ ≠ s_.2.2) s_.1 aG) ∧ (Kd.V Kd.string 9 w' w.heap.size (fun k_ => k_ ≠ aj ∧ k_ ≠ ak ∧ k_ ≠ al ∧ k_ ≠ s_.2.2) s_.2.1 aH) ∧ (Kd.R k27 27 w' w.heap.size (fun _ => True) (.slice (some ad393) ap.length aA) ap) ∧ (Kd.R Kd.string 9 w' w.heap.size (fun _ => True) (.slice a7 au.length aB) au) ∧ (Kd.V k27 27 w' w.heap.size (fun k_ => k_ ≠ aj ∧ k_ ≠ ak ∧ k_ ≠ al ∧ k_ ≠ s_.2.2) (.slice bo ar.length bp) ar) ∧ (Kd.V Kd.string 9 w' w.heap.size (fun k_ => k_ ≠ aj ∧ k_ ≠ ak ∧ k_ ≠ al ∧ k_ ≠ s_.2.2) (.slice bj aq.length bk) aq) ∧ (Kd.V k27 27 w' w.heap.size (fun k_ => some k_ ≠ (.slice (some ad393) ap.length aA : Value).ownBlock ∧ some k_ ≠ (.slice a7 au.length aB : Value).ownBlock ∧ k_ ≠ aj ∧ k_ ≠ ak ∧ k_ ≠ al ∧ k_ ≠ s_.2.2) u391000 ax) ∧ (Kd.V Kd.string 9 w' w.heap.size (fun k_ => some k_ ≠ (.slice (some ad393) ap.length aA : Value).ownBlock ∧ some k_ ≠ (.slice a7 au.length aB : Value).ownBlock ∧ k_ ≠ aj ∧ k_ ≠ ak ∧ k_ ≠ al ∧ k_ ≠ s_.2.2) u391001 av) ∧ (w'.heap[aj]? = some (.cells #[.slice (some ad393) ap.length aA, .slice a7 au.length aB] 25 (0, 0))) ∧ (w'.heap[ak]? = some (.cells #[.slice bo ar.length bp, .slice bj aq.length bk] 25 (0, 0))) ∧ (w'.heap[al]? = some (.cells #[u391000, u391001] 25 (0, 0))) ∧ (w'.heap[s_.2.2]? = some (.cells #[.slice none 0 0, .slice none 0 0] 25 (0, 0))) ∧ (w.heap.size ≤ s_.2.2) ∧ (w.heap.size ≤ s_.2.2) ∧ (aj ≠ s_.2.2) ∧ (s_.2.2 ≠ aj) ∧ (ak ≠ s_.2.2) ∧ (s_.2.2 ≠ ak) ∧ (al ≠ s_.2.2) ∧ (s_.2.2 ≠ al) ∧ (Below w.heap.size w w')) ?_ ?_
           rotate_left
           ·intro hCont
            refine two_ (i := 6) (j := 10) (Ni := some 47) (Nj := some 10) #[true, true, true, true, true, true, true, false, false, false, false, false, false] #[true, true, true, true, true, true, false, false, false, false, true, false, false] rfl rfl rfl rfl (two_of HT_.out (by kernel_rfl)) (by decide) (by decide) (fun K hK => ?_) (fun K hK => ?_)
            ·skip
             refine goes_ Tryd.func12 (by kernel_rfl) rfl #[.agg #[.slice bo ar.length bp, .slice bj aq.length bk], .agg #[.string ((rd_T27 ap (ay)).f0), .string ((rd_T27 ap (ay)).f1)]] (by rfl) rfl rfl (by (try simp only [List.map_toArray, List.map_cons, List.map_nil]); first | done | (simp only [bL]; rfl) | rfl | (simp only [List.length_drop, List.length_take]; rfl)) ?_
             with_reducible refine (store_Drop.calls k1 (fun k_ => (k_ ≠ aj ∧ (k_ ≠ ak ∧ k_ ≠ al))) _ _ ar (fun k_ => (k_ ≠ aj ∧ (k_ ≠ ak ∧ k_ ≠ al))) _ _ aq ((rd_T27 ap (ay)).f0) ((rd_T27 ap (ay)).f1) aG aH bE _ ?side1 ?side2 A27.out).mono ?_
             (case side1 => exact ag.out)
             (case side2 => exact ah.out)
             rintro e w35 ⟨b6, b7, rfl, ho0, ho1, hb⟩
             have HS4_ := (hb.cell (World.block_lt_of_cell? _ _ (hHeld.2.2.2.2.1))).trans (hHeld.2.2.2.2.1)
             have HS5_ := (hb.cell (World.block_lt_of_cell? _ _ (hHeld.2.2.2.2.2))).trans (hHeld.2.2.2.2.2)
             refine ⟨_, rfl, ?_⟩
             have n0_ := am (rB aa.out hb)
             have n1_ := am (rB ab.out hb)
             have n2_ := am (vB ag.out hb)
             have n3_ := am (vB ah.out hb)
             have n4_ := am (vB ae.out hb)
             have n5_ := am (vB af.out hb)
             have n6_ := am (Kd.V_lower (Kd.V_mono (ok' := fun k_ => k_ ≠ aj ∧ k_ ≠ ak ∧ k_ ≠ al) ho0 (fun k_ hk_ => ⟨oE hk_ (·.1) (fB ac.out k_), oE hk_ (·.2.1) (fB an.out k_), oE hk_ (·.2.2) (fB ao.out k_)⟩)) (below_size (eT HB.out)))
             have n7_ := am (Kd.V_lower (Kd.V_mono (ok' := fun k_ => k_ ≠ aj ∧ k_ ≠ ak ∧ k_ ≠ al) ho1 (fun k_ hk_ => ⟨oE hk_ (·.1) (fB ac.out k_), oE hk_ (·.2.1) (fB an.out k_), oE hk_ (·.2.2) (fB ao.out k_)⟩)) (below_size (eT HB.out)))
             have n8_ := am (bB ac.out hb)
             have n9_ := am (bB an.out hb)
             have n10_ := am (bB ao.out hb)
             have n11_ := am (sT HB.out hb)
             clear aa ab ag ah ae af ac an ao HB
             have aa := n0_
             have ab := n1_
             have ag := n2_
             have ah := n3_
             have ae := n4_
             have af := n5_
             have aC := n6_
             have aD := n7_
             have ac := n8_
             have an := n9_
             have ao := n10_
             have HB := n11_
             clear n0_ n1_ n2_ n3_ n4_ n5_ n6_ n7_ n8_ n9_ n10_ n11_
             (try clear hb)
             (try clear hb2)
             (try clear hk)
             (try clear hi)
             (try clear ho0)
             (try clear ho1)
             refine hK.out _ _ ⟨(blk_cell an.out 0).trans rfl, (blk_cell an.out 1).trans rfl, (blk_cell ac.out 0).trans rfl, (blk_cell ac.out 1).trans rfl, HS4_, HS5_⟩ (fun hHeld => ?_)
             clear hK K
             refine norm_ (a' := ?_) ?_ ?_
             rotate_left
             ·show Act.put _ (some 47) _ = _
              simp only [pS]
              rfl
             refine pure_ (i := 7) (N := some 40) (v := ?_) (a' := ?_) #[true, true, true, true, true, true, true, true, false, false, false, false, false] rfl rfl (any_of HT_.out (by kernel_rfl)) (fun _ _ _ h => h) (Or.inl ⟨by rfl, ?_⟩) ?_ ?_
             rotate_left
             ·intro w'
              go_simp
              with_reducible rfl
             rotate_left
             ·simp only [pS]
              rfl
             refine pure_ (i := 8) (N := some 48) (v := ?_) (a' := ?_) #[true, true, true, true, true, true, true, true, true, false, false, false, false] rfl rfl (any_of HT_.out (by kernel_rfl)) (fun _ _ _ h => h) (Or.inl ⟨by rfl, ?_⟩) ?_ ?_
             rotate_left
             ·intro w'
              go_simp
              with_reducible rfl
             rotate_left
             ·simp only [pS]
              rfl
             refine pure_ (i := 9) (N := some 49) (v := ?_) (a' := ?_) #[true, true, true, true, true, true, true, true, true, true, false, false, false] rfl rfl (any_of HT_.out (by kernel_rfl)) (fun _ _ _ h => h) (Or.inl ⟨by rfl, ?_⟩) ?_ ?_
             rotate_left
             ·intro w'
              go_simp
              with_reducible rfl
             rotate_left
             ·simp only [pS]
              rfl
             refine one_ (i := 10) (N := some 10) #[true, true, true, true, true, true, true, true, true, true, true, false, false] rfl rfl (one_of HT_.out (by kernel_rfl)) (by decide) (fun K hK => ?_)
             refine box_step ?hg (N := 10) ?hd (cs := #[.slice none 0 0, .slice none 0 0]) (t := 25) ?hr ?_; (case hd => rfl); (case hg => rfl); (case hr => first | (go_simp; done) | (go_simp; rfl))
             intro ad hg w36 hbox hb
             have HS4_ := (hb.cell (World.block_lt_of_cell? _ _ (hHeld.2.2.2.2.1))).trans (hHeld.2.2.2.2.1)
             have HS5_ := (hb.cell (World.block_lt_of_cell? _ _ (hHeld.2.2.2.2.2))).trans (hHeld.2.2.2.2.2)
             have n0_ := am (rB aa.out hb)
             have n1_ := am (rB ab.out hb)
             have n2_ := am (Kd.V_below (Kd.V_elderB (vT ag.out) ad (Nat.le_of_eq hg.symm)) hb)
             have n3_ := am (Kd.V_below (Kd.V_elderB (vT ah.out) ad (Nat.le_of_eq hg.symm)) hb)
             have n4_ := am (Kd.V_below (Kd.V_elderB (vT ae.out) ad (Nat.le_of_eq hg.symm)) hb)
             have n5_ := am (Kd.V_below (Kd.V_elderB (vT af.out) ad (Nat.le_of_eq hg.symm)) hb)
             have n6_ := am (Kd.V_below (Kd.V_elderB (vT aC.out) ad (Nat.le_of_eq hg.symm)) hb)
             have n7_ := am (Kd.V_below (Kd.V_elderB (vT aD.out) ad (Nat.le_of_eq hg.symm)) hb)
             have n8_ := am (bB ac.out hb)
             have n9_ := am (bB an.out hb)
             have n10_ := am (bB ao.out hb)
             have n11_ := am (sT HB.out hb)
             have n12_ := am (hbox)
             have n13_ := am ((gT hg HB.out))
             have n14_ := am ((gT hg HB.out))
             have n15_ := am ((nT ac.out hg))
             have n16_ := am ((mT ac.out hg))
             have n17_ := am ((nT an.out hg))
             have n18_ := am ((mT an.out hg))
             have n19_ := am ((nT ao.out hg))
             have n20_ := am ((mT ao.out hg))
             clear aa ab ag ah ae af aC aD ac an ao HB
             have aa := n0_
             have ab := n1_
             have ag := n2_
             have ah := n3_
             have ae := n4_
             have af := n5_
             have aC := n6_
             have aD := n7_
             have ac := n8_
             have an := n9_
             have ao := n10_
             have HB := n11_
             have aw := n12_
             have bZ := n13_
             have b0 := n14_
             have aJ := n15_
             have bg := n16_
             have aE := n17_
             have aK := n18_
             have a3 := n19_
             have aL := n20_
             clear n0_ n1_ n2_ n3_ n4_ n5_ n6_ n7_ n8_ n9_ n10_ n11_ n12_ n13_ n14_ n15_ n16_ n17_ n18_ n19_ n20_ hb hbox hg
             refine hK.out _ _ ⟨(blk_cell an.out 0).trans rfl, (blk_cell an.out 1).trans rfl, (blk_cell ac.out 0).trans rfl, (blk_cell ac.out 1).trans rfl, HS4_, HS5_⟩ (fun hHeld => ?_)
             clear hK K
             refine norm_ (a' := ?_) ?_ ?_
             rotate_left
             ·show Act.put _ (some 10) _ = _
              simp only [pS]
              rfl
             exact norm_ (by simp only [putAll, Act.put, List.setIfInBounds_toArray, List.set_cons_zero, List.set_cons_succ]) (hCont (b6, b7, ad) _ ⟨hHeld, (by (with_reducible repeat (first | apply Kd.V_alloc | apply Kd.V_drewN | apply Kd.V_drew)); exact Kd.V_mono aC.out (fun _ hk => ⟨hk.1.1, ⟨hk.1.2.1, ⟨hk.1.2.2, hk.2⟩⟩⟩)), (by (with_reducible repeat (first | apply Kd.V_alloc | apply Kd.V_drewN | apply Kd.V_drew)); exact Kd.V_mono aD.out (fun _ hk => ⟨hk.1.1, ⟨hk.1.2.1, ⟨hk.1.2.2, hk.2⟩⟩⟩)), (rT aa.out), (rT ab.out), (by (with_reducible repeat (first | apply Kd.V_alloc | apply Kd.V_drewN | apply Kd.V_drew)); exact Kd.V_mono ag.out (fun _ hk => ⟨hk.1.1, ⟨hk.1.2.1, ⟨hk.1.2.2, hk.2⟩⟩⟩)), (by (with_reducible repeat (first | apply Kd.V_alloc | apply Kd.V_drewN | apply Kd.V_drew)); exact Kd.V_mono ah.out (fun _ hk => ⟨hk.1.1, ⟨hk.1.2.1, ⟨hk.1.2.2, hk.2⟩⟩⟩)), (by (with_reducible repeat (first | apply Kd.V_alloc | apply Kd.V_drewN | apply Kd.V_drew)); exact Kd.V_mono ae.out (fun _ hk => ⟨hk.1.1, ⟨hk.1.2.1, ⟨hk.1.2.2.1, ⟨hk.1.2.2.2.1, ⟨hk.1.2.2.2.2, hk.2⟩⟩⟩⟩⟩)), (by (with_reducible repeat (first | apply Kd.V_alloc | apply Kd.V_drewN | apply Kd.V_drew)); exact Kd.V_mono af.out (fun _ hk => ⟨hk.1.1, ⟨hk.1.2.1, ⟨hk.1.2.2.1, ⟨hk.1.2.2.2.1, ⟨hk.1.2.2.2.2, hk.2⟩⟩⟩⟩⟩)), (bT ac.out), (bT an.out), (bT ao.out), (bT aw.out), bZ.out, b0.out, aJ.out, bg.out, aE.out, aK.out, a3.out, aL.out, (eT HB.out)⟩)
            ·skip
             refine box_step ?hg (N := 10) ?hd (cs := #[.slice none 0 0, .slice none 0 0]) (t := 25) ?hr ?_; (case hd => rfl); (case hg => rfl); (case hr => first | (go_simp; done) | (go_simp; rfl))
             intro ad hg w35 hbox hb
             have HS4_ := (hb.cell (World.block_lt_of_cell? _ _ (hHeld.2.2.2.2.1))).trans (hHeld.2.2.2.2.1)
             have HS5_ := (hb.cell (World.block_lt_of_cell? _ _ (hHeld.2.2.2.2.2))).trans (hHeld.2.2.2.2.2)
             have n0_ := am (rB aa.out hb)
             have n1_ := am (rB ab.out hb)
             have n2_ := am (Kd.V_below (Kd.V_elderB (vT ag.out) ad (Nat.le_of_eq hg.symm)) hb)
             have n3_ := am (Kd.V_below (Kd.V_elderB (vT ah.out) ad (Nat.le_of_eq hg.symm)) hb)
             have n4_ := am (Kd.V_below (Kd.V_elderB (vT ae.out) ad (Nat.le_of_eq hg.symm)) hb)
             have n5_ := am (Kd.V_below (Kd.V_elderB (vT af.out) ad (Nat.le_of_eq hg.symm)) hb)
             have n6_ := am (bB ac.out hb)
             have n7_ := am (bB an.out hb)
             have n8_ := am (bB ao.out hb)
             have n9_ := am (sT HB.out hb)
             have n10_ := am (hbox)
             have n11_ := am ((gT hg HB.out))
             have n12_ := am ((gT hg HB.out))
             have n13_ := am ((nT ac.out hg))
             have n14_ := am ((mT ac.out hg))
             have n15_ := am ((nT an.out hg))
             have n16_ := am ((mT an.out hg))
             have n17_ := am ((nT ao.out hg))
             have n18_ := am ((mT ao.out hg))
             clear aa ab ag ah ae af ac an ao HB
             have aa := n0_
             have ab := n1_
             have ag := n2_
             have ah := n3_
             have ae := n4_
             have af := n5_
             have ac := n6_
             have an := n7_
             have ao := n8_
             have HB := n9_
             have aw := n10_
             have bZ := n11_
             have b0 := n12_
             have aJ := n13_
             have bg := n14_
             have aE := n15_
             have aK := n16_
             have a3 := n17_
             have aL := n18_
             clear n0_ n1_ n2_ n3_ n4_ n5_ n6_ n7_ n8_ n9_ n10_ n11_ n12_ n13_ n14_ n15_ n16_ n17_ n18_ hb hbox hg
             refine hK.out _ _ ⟨(blk_cell an.out 0).trans rfl, (blk_cell an.out 1).trans rfl, (blk_cell ac.out 0).trans rfl, (blk_cell ac.out 1).trans rfl, HS4_, HS5_⟩ (fun hHeld => ?_)
             clear hK K
             refine norm_ (a' := ?_) ?_ ?_
             rotate_left
             ·show Act.put _ (some 10) _ = _
              simp only [pS]
              rfl
             refine one_ (i := 6) (N := some 47) #[true, true, true, true, true, true, true, false, false, false, true, false, false] rfl rfl (one_of HT_.out (by kernel_rfl)) (by decide) (fun K hK => ?_)
             refine goes_ Tryd.func12 (by kernel_rfl) rfl #[.agg #[.slice bo ar.length bp, .slice bj aq.length bk], .agg #[.string ((rd_T27 ap (ay)).f0), .string ((rd_T27 ap (ay)).f1)]] (by rfl) rfl rfl (by (try simp only [List.map_toArray, List.map_cons, List.map_nil]); first | done | (simp only [bL]; rfl) | rfl | (simp only [List.length_drop, List.length_take]; rfl)) ?_
             with_reducible refine (store_Drop.calls k1 (fun k_ => ((k_ ≠ aj ∧ (k_ ≠ ak ∧ k_ ≠ al)) ∧ k_ ≠ ad)) _ _ ar (fun k_ => ((k_ ≠ aj ∧ (k_ ≠ ak ∧ k_ ≠ al)) ∧ k_ ≠ ad)) _ _ aq ((rd_T27 ap (ay)).f0) ((rd_T27 ap (ay)).f1) aG aH bE _ ?side1 ?side2 A27.out).mono ?_
             (case side1 => exact ag.out)
             (case side2 => exact ah.out)
             rintro e w36 ⟨b6, b7, rfl, ho0, ho1, hb⟩
             have HS4_ := (hb.cell (World.block_lt_of_cell? _ _ (hHeld.2.2.2.2.1))).trans (hHeld.2.2.2.2.1)
             have HS5_ := (hb.cell (World.block_lt_of_cell? _ _ (hHeld.2.2.2.2.2))).trans (hHeld.2.2.2.2.2)
             refine ⟨_, rfl, ?_⟩
             have n0_ := am (rB aa.out hb)
             have n1_ := am (rB ab.out hb)
             have n2_ := am (vB ag.out hb)
             have n3_ := am (vB ah.out hb)
             have n4_ := am (vB ae.out hb)
             have n5_ := am (vB af.out hb)
             have n6_ := am (Kd.V_lower (Kd.V_mono (ok' := fun k_ => k_ ≠ aj ∧ k_ ≠ ak ∧ k_ ≠ al ∧ k_ ≠ ad) ho0 (fun k_ hk_ => ⟨oE hk_ (·.1.1) (fB ac.out k_), oE hk_ (·.1.2.1) (fB an.out k_), oE hk_ (·.1.2.2) (fB ao.out k_), oE hk_ (·.2) (fB aw.out k_)⟩)) (below_size (eT HB.out)))
             have n7_ := am (Kd.V_lower (Kd.V_mono (ok' := fun k_ => k_ ≠ aj ∧ k_ ≠ ak ∧ k_ ≠ al ∧ k_ ≠ ad) ho1 (fun k_ hk_ => ⟨oE hk_ (·.1.1) (fB ac.out k_), oE hk_ (·.1.2.1) (fB an.out k_), oE hk_ (·.1.2.2) (fB ao.out k_), oE hk_ (·.2) (fB aw.out k_)⟩)) (below_size (eT HB.out)))
             have n8_ := am (bB ac.out hb)
             have n9_ := am (bB an.out hb)
             have n10_ := am (bB ao.out hb)
             have n11_ := am (bB aw.out hb)
             have n12_ := am (sT HB.out hb)
             clear aa ab ag ah ae af ac an ao aw HB
             have aa := n0_
             have ab := n1_
             have ag := n2_
             have ah := n3_
             have ae := n4_
             have af := n5_
             have aC := n6_
             have aD := n7_
             have ac := n8_
             have an := n9_
             have ao := n10_
             have aw := n11_
             have HB := n12_
             clear n0_ n1_ n2_ n3_ n4_ n5_ n6_ n7_ n8_ n9_ n10_ n11_ n12_
             (try clear hb)
             (try clear hb2)
             (try clear hk)
             (try clear hi)
             (try clear ho0)
             (try clear ho1)
             refine hK.out _ _ ⟨(blk_cell an.out 0).trans rfl, (blk_cell an.out 1).trans rfl, (blk_cell ac.out 0).trans rfl, (blk_cell ac.out 1).trans rfl, HS4_, HS5_⟩ (fun hHeld => ?_)
             clear hK K
             refine norm_ (a' := ?_) ?_ ?_
             rotate_left
             ·show Act.put _ (some 47) _ = _
              simp only [pS]
              rfl
             refine pure_ (i := 7) (N := some 40) (v := ?_) (a' := ?_) #[true, true, true, true, true, true, true, true, false, false, true, false, false] rfl rfl (any_of HT_.out (by kernel_rfl)) (fun _ _ _ h => h) (Or.inl ⟨by rfl, ?_⟩) ?_ ?_
             rotate_left
             ·intro w'
              go_simp
              with_reducible rfl
             rotate_left
             ·simp only [pS]
              rfl
             refine pure_ (i := 8) (N := some 48) (v := ?_) (a' := ?_) #[true, true, true, true, true, true, true, true, true, false, true, false, false] rfl rfl (any_of HT_.out (by kernel_rfl)) (fun _ _ _ h => h) (Or.inl ⟨by rfl, ?_⟩) ?_ ?_
             rotate_left
             ·intro w'
              go_simp
              with_reducible rfl
             rotate_left
             ·simp only [pS]
              rfl
             refine pure_ (i := 9) (N := some 49) (v := ?_) (a' := ?_) #[true, true, true, true, true, true, true, true, true, true, true, false, false] rfl rfl (any_of HT_.out (by kernel_rfl)) (fun _ _ _ h => h) (Or.inl ⟨by rfl, ?_⟩) ?_ ?_
             rotate_left
             ·intro w'
              go_simp
              with_reducible rfl
             rotate_left
             ·simp only [pS]
              rfl
             exact norm_ (by simp only [putAll, Act.put, List.setIfInBounds_toArray, List.set_cons_zero, List.set_cons_succ]) (hCont (b6, b7, ad) _ ⟨hHeld, (vT aC.out), (vT aD.out), (rT aa.out), (rT ab.out), (by (with_reducible repeat (first | apply Kd.V_alloc | apply Kd.V_drewN | apply Kd.V_drew)); exact Kd.V_mono ag.out (fun _ hk => ⟨hk.1.1, ⟨hk.1.2.1, ⟨hk.1.2.2, hk.2⟩⟩⟩)), (by (with_reducible repeat (first | apply Kd.V_alloc | apply Kd.V_drewN | apply Kd.V_drew)); exact Kd.V_mono ah.out (fun _ hk => ⟨hk.1.1, ⟨hk.1.2.1, ⟨hk.1.2.2, hk.2⟩⟩⟩)), (by (with_reducible repeat (first | apply Kd.V_alloc | apply Kd.V_drewN | apply Kd.V_drew)); exact Kd.V_mono ae.out (fun _ hk => ⟨hk.1.1, ⟨hk.1.2.1, ⟨hk.1.2.2.1, ⟨hk.1.2.2.2.1, ⟨hk.1.2.2.2.2, hk.2⟩⟩⟩⟩⟩)), (by (with_reducible repeat (first | apply Kd.V_alloc | apply Kd.V_drewN | apply Kd.V_drew)); exact Kd.V_mono af.out (fun _ hk => ⟨hk.1.1, ⟨hk.1.2.1, ⟨hk.1.2.2.1, ⟨hk.1.2.2.2.1, ⟨hk.1.2.2.2.2, hk.2⟩⟩⟩⟩⟩)), (bT ac.out), (bT an.out), (bT ao.out), (bT aw.out), bZ.out, b0.out, aJ.out, bg.out, aE.out, aK.out, a3.out, aL.out, (eT HB.out)⟩)
           rintro ⟨b6, b7, ad⟩ w37 ⟨hS_, h0_, h1_, h2_, h3_, h4_, h5_, h6_, h7_, h8_, h9_, h10_, h11_, h12_, h13_, h14_, h15_, h16_, h17_, h18_, h19_, h20_⟩
           have n0_ : Aside0 (Kd.V k27 27 w37 w.heap.size (fun k_ => k_ ≠ aj ∧ k_ ≠ ak ∧ k_ ≠ al ∧ k_ ≠ ad) b6 aG) := ⟨h0_⟩
           have n1_ : Aside0 (Kd.V Kd.string 9 w37 w.heap.size (fun k_ => k_ ≠ aj ∧ k_ ≠ ak ∧ k_ ≠ al ∧ k_ ≠ ad) b7 aH) := ⟨h1_⟩
           have n2_ : Aside0 (Kd.R k27 27 w37 w.heap.size (fun _ => True) (.slice (some ad393) ap.length aA) ap) := ⟨h2_⟩
           have n3_ : Aside0 (Kd.R Kd.string 9 w37 w.heap.size (fun _ => True) (.slice a7 au.length aB) au) := ⟨h3_⟩
           have n4_ : Aside0 (Kd.V k27 27 w37 w.heap.size (fun k_ => k_ ≠ aj ∧ k_ ≠ ak ∧ k_ ≠ al ∧ k_ ≠ ad) (.slice bo ar.length bp) ar) := ⟨h4_⟩
           have n5_ : Aside0 (Kd.V Kd.string 9 w37 w.heap.size (fun k_ => k_ ≠ aj ∧ k_ ≠ ak ∧ k_ ≠ al ∧ k_ ≠ ad) (.slice bj aq.length bk) aq) := ⟨h5_⟩
           have n6_ : Aside0 (Kd.V k27 27 w37 w.heap.size (fun k_ => some k_ ≠ (.slice (some ad393) ap.length aA : Value).ownBlock ∧ some k_ ≠ (.slice a7 au.length aB : Value).ownBlock ∧ k_ ≠ aj ∧ k_ ≠ ak ∧ k_ ≠ al ∧ k_ ≠ ad) u391000 ax) := ⟨h6_⟩
           have n7_ : Aside0 (Kd.V Kd.string 9 w37 w.heap.size (fun k_ => some k_ ≠ (.slice (some ad393) ap.length aA : Value).ownBlock ∧ some k_ ≠ (.slice a7 au.length aB : Value).ownBlock ∧ k_ ≠ aj ∧ k_ ≠ ak ∧ k_ ≠ al ∧ k_ ≠ ad) u391001 av) := ⟨h7_⟩
           have n8_ : Aside0 (w37.heap[aj]? = some (.cells #[.slice (some ad393) ap.length aA, .slice a7 au.length aB] 25 (0, 0))) := ⟨h8_⟩
           have n9_ : Aside0 (w37.heap[ak]? = some (.cells #[.slice bo ar.length bp, .slice bj aq.length bk] 25 (0, 0))) := ⟨h9_⟩
           have n10_ : Aside0 (w37.heap[al]? = some (.cells #[u391000, u391001] 25 (0, 0))) := ⟨h10_⟩
           have n11_ : Aside0 (w37.heap[ad]? = some (.cells #[.slice none 0 0, .slice none 0 0] 25 (0, 0))) := ⟨h11_⟩
           have n12_ : Aside0 (w.heap.size ≤ ad) := ⟨h12_⟩
           have n13_ : Aside0 (w.heap.size ≤ ad) := ⟨h13_⟩
           have n14_ : Aside0 (aj ≠ ad) := ⟨h14_⟩
           have n15_ : Aside0 (ad ≠ aj) := ⟨h15_⟩
           have n16_ : Aside0 (ak ≠ ad) := ⟨h16_⟩
           have n17_ : Aside0 (ad ≠ ak) := ⟨h17_⟩
           have n18_ : Aside0 (al ≠ ad) := ⟨h18_⟩
           have n19_ : Aside0 (ad ≠ al) := ⟨h19_⟩
           have n20_ : Aside0 (Below w.heap.size w w37) := ⟨h20_⟩
           clear aa ab ag ah ae af ac an ao HB h0_ h1_ h2_ h3_ h4_ h5_ h6_ h7_ h8_ h9_ h10_ h11_ h12_ h13_ h14_ h15_ h16_ h17_ h18_ h19_ h20_
           have aC := n0_
           have aD := n1_
           have aa := n2_
           have ab := n3_
           have ag := n4_
           have ah := n5_
           have ae := n6_
           have af := n7_
           have ac := n8_
           have an := n9_
           have ao := n10_
           have aw := n11_
           have bZ := n12_
           have b0 := n13_
           have aJ := n14_
           have bg := n15_
           have aE := n16_
           have aK := n17_
           have a3 := n18_
           have aL := n19_
           have HB := n20_
           clear n0_ n1_ n2_ n3_ n4_ n5_ n6_ n7_ n8_ n9_ n10_ n11_ n12_ n13_ n14_ n15_ n16_ n17_ n18_ n19_ n20_
           have hHeld : w37.cell? ⟨ak, 0, none⟩ = some (.slice bo ar.length bp) ∧ w37.cell? ⟨ak, 1, none⟩ = some (.slice bj aq.length bk) ∧ w37.cell? ⟨aj, 0, none⟩ = some (.slice (some ad393) ap.length aA) ∧ w37.cell? ⟨aj, 1, none⟩ = some (.slice a7 au.length aB) ∧ w37.cell? (ad393.add (((ay)).toNat * 2)) = some (.string ((rd_T27 ap (ay)).f0)) ∧ w37.cell? ⟨(ad393.add (((ay)).toNat * 2)).block, (ad393.add (((ay)).toNat * 2)).off + 1, none⟩ = some (.string ((rd_T27 ap (ay)).f1)) := hS_
           obtain ⟨aQ, aR, cU⟩ := Kd.V_slice aC.out
           (first | subst cU | (injection cU with f1_ f2_ f3_; have f4_ := f1_.symm; have f5_ := f3_.symm; clear f1_ f2_ f3_; subst f4_; subst f5_))
           obtain ⟨aW, aX, cV⟩ := Kd.V_slice aD.out
           (first | subst cV | (injection cV with f1_ f2_ f3_; have f4_ := f1_.symm; have f5_ := f3_.symm; clear f1_ f2_ f3_; subst f4_; subst f5_))
           refine norm_ (a' := ?_) ?_ ?_
           rotate_left
           ·simp only [putAll, Act.put, List.setIfInBounds_toArray, List.set_cons_zero, List.set_cons_succ]
            rfl
           refine one_ (i := 11) (N := none) #[true, true, true, true, true, true, true, true, true, true, true, true, false] rfl rfl (one_of HT_.out (by kernel_rfl)) (by decide) (fun K hK => ?_)
           have fl : w37.cell? ⟨ad, 0, none⟩ = some (.slice none 0 0) := (blk_cell aw.out 0).trans rfl
           have e6 := blk_frozen aw.out 0
           have dw := aJ.out
           have dx := aE.out
           have dy := a3.out
           have dz := bg.out
           have dA := aK.out
           have dB := aL.out
           have fm : w37.cell? ⟨ad, 1, none⟩ = some (.slice none 0 0) := (blk_cell aw.out 1).trans rfl
           have e7 := blk_frozen aw.out 1
           have dC := aJ.out
           have dD := aE.out
           have dE := a3.out
           have dF := bg.out
           have dG := aK.out
           have dH := aL.out
           refine skip_ (w1 := ?_) (by rfl) rfl ?_ ?_
           rotate_left
           ·go_simp
            rfl
           refine hK.out _ _ ⟨((cell_far (p := ⟨ad, _, none⟩) aE.out _).trans (((cell_far (p := ⟨ad, _, none⟩) aE.out _).trans (hHeld.1)))), ((cell_far (p := ⟨ad, _, none⟩) aE.out _).trans (((cell_far (p := ⟨ad, _, none⟩) aE.out _).trans (hHeld.2.1)))), ((cell_far (p := ⟨ad, _, none⟩) aJ.out _).trans (((cell_far (p := ⟨ad, _, none⟩) aJ.out _).trans (hHeld.2.2.1)))), ((cell_far (p := ⟨ad, _, none⟩) aJ.out _).trans (((cell_far (p := ⟨ad, _, none⟩) aJ.out _).trans (hHeld.2.2.2.1)))), ((cell_far (p := ⟨ad, _, none⟩) (by first | exact Kd.own_blk (Kd.R_ne aa.out aw.out (by decide)) | (rw [add_block]; exact Kd.own_blk (Kd.R_ne aa.out aw.out (by decide))) | (show (Addr.add _ _).block ≠ _; rw [add_block]; exact Kd.own_blk (Kd.R_ne aa.out aw.out (by decide))) | (dsimp only; exact Kd.own_blk (Kd.R_ne aa.out aw.out (by decide)))) _).trans (((cell_far (p := ⟨ad, _, none⟩) (by first | exact Kd.own_blk (Kd.R_ne aa.out aw.out (by decide)) | (rw [add_block]; exact Kd.own_blk (Kd.R_ne aa.out aw.out (by decide))) | (show (Addr.add _ _).block ≠ _; rw [add_block]; exact Kd.own_blk (Kd.R_ne aa.out aw.out (by decide))) | (dsimp only; exact Kd.own_blk (Kd.R_ne aa.out aw.out (by decide)))) _).trans (hHeld.2.2.2.2.1)))), ((cell_far (p := ⟨ad, _, none⟩) (by first | exact Kd.own_blk (Kd.R_ne aa.out aw.out (by decide)) | (rw [add_block]; exact Kd.own_blk (Kd.R_ne aa.out aw.out (by decide))) | (show (Addr.add _ _).block ≠ _; rw [add_block]; exact Kd.own_blk (Kd.R_ne aa.out aw.out (by decide))) | (dsimp only; exact Kd.own_blk (Kd.R_ne aa.out aw.out (by decide)))) _).trans (((cell_far (p := ⟨ad, _, none⟩) (by first | exact Kd.own_blk (Kd.R_ne aa.out aw.out (by decide)) | (rw [add_block]; exact Kd.own_blk (Kd.R_ne aa.out aw.out (by decide))) | (show (Addr.add _ _).block ≠ _; rw [add_block]; exact Kd.own_blk (Kd.R_ne aa.out aw.out (by decide))) | (dsimp only; exact Kd.own_blk (Kd.R_ne aa.out aw.out (by decide)))) _).trans (hHeld.2.2.2.2.2))))⟩ (fun hHeld => ?_)
           clear hK K
           refine pure_ (i := 12) (N := some 11) (v := ?_) (a' := ?_) #[true, true, true, true, true, true, true, true, true, true, true, true, true] rfl rfl (any_of HT_.out (by kernel_rfl)) (fun _ _ _ h => h) (Or.inl ⟨by rfl, ?_⟩) ?_ ?_
           rotate_left
           ·intro w'
            go_simp
            with_reducible rfl
           rotate_left
           ·simp only [pS]
            rfl
           refine done_ (done_of HT_.out (by kernel_rfl)) ?_
           obtain ⟨bu, bv, eA⟩ := Kd.V_slice ae.out
           subst eA
           obtain ⟨bs, bt, eB⟩ := Kd.V_slice af.out
           subst eB
           try go_wp2
           have n0_ : Aside0 (Kd.R k27 27 ((w37.setCell ⟨ad, 0, none⟩ (.slice aQ aG.length aR)).setCell ⟨ad, 1, none⟩ (.slice aW aH.length aX)) w.heap.size (fun _ => True) (.slice (some ad393) ap.length aA) ap) := ⟨by (with_reducible repeat (first | apply Kd.R_alloc | apply Kd.R_drewN | apply Kd.R_drew)); exact Kd.R_mono (Kd.R_far (p := ⟨ad, 1, none⟩) (Kd.R_far (p := ⟨ad, 0, none⟩) (Kd.R_types aa.out aw.out (by decide)) (fun _ hk => hk.2) (.slice aQ aG.length aR)) (fun _ hk => hk.2) (.slice aW aH.length aX)) (fun _ hk => trivial)⟩
           have n1_ : Aside0 (Kd.R Kd.string 9 ((w37.setCell ⟨ad, 0, none⟩ (.slice aQ aG.length aR)).setCell ⟨ad, 1, none⟩ (.slice aW aH.length aX)) w.heap.size (fun _ => True) (.slice a7 au.length aB) au) := ⟨by (with_reducible repeat (first | apply Kd.R_alloc | apply Kd.R_drewN | apply Kd.R_drew)); exact Kd.R_mono (Kd.R_far (p := ⟨ad, 1, none⟩) (Kd.R_far (p := ⟨ad, 0, none⟩) (Kd.R_types ab.out aw.out (by decide)) (fun _ hk => hk.2) (.slice aQ aG.length aR)) (fun _ hk => hk.2) (.slice aW aH.length aX)) (fun _ hk => trivial)⟩
           have n2_ : Aside0 (Kd.V k27 27 ((w37.setCell ⟨ad, 0, none⟩ (.slice aQ aG.length aR)).setCell ⟨ad, 1, none⟩ (.slice aW aH.length aX)) w.heap.size (fun k_ => k_ ≠ aj ∧ k_ ≠ ak ∧ k_ ≠ al ∧ k_ ≠ ad) (.slice bo ar.length bp) ar) := ⟨by (with_reducible repeat (first | apply Kd.V_alloc | apply Kd.V_drewN | apply Kd.V_drew)); exact Kd.V_mono (Kd.V_far (p := ⟨ad, 1, none⟩) (Kd.V_far (p := ⟨ad, 0, none⟩) (Kd.V_mono ag.out (fun k_ hk => (⟨hk, hk.2.2.2⟩ : _ ∧ k_ ≠ ad))) (fun _ hk => hk.2) (.slice aQ aG.length aR)) (fun _ hk => hk.2) (.slice aW aH.length aX)) (fun _ hk => ⟨hk.1.1, ⟨hk.1.2.1, ⟨hk.1.2.2.1, hk.1.2.2.2⟩⟩⟩)⟩
           have n3_ : Aside0 (Kd.V Kd.string 9 ((w37.setCell ⟨ad, 0, none⟩ (.slice aQ aG.length aR)).setCell ⟨ad, 1, none⟩ (.slice aW aH.length aX)) w.heap.size (fun k_ => k_ ≠ aj ∧ k_ ≠ ak ∧ k_ ≠ al ∧ k_ ≠ ad) (.slice bj aq.length bk) aq) := ⟨by (with_reducible repeat (first | apply Kd.V_alloc | apply Kd.V_drewN | apply Kd.V_drew)); exact Kd.V_mono (Kd.V_far (p := ⟨ad, 1, none⟩) (Kd.V_far (p := ⟨ad, 0, none⟩) (Kd.V_mono ah.out (fun k_ hk => (⟨hk, hk.2.2.2⟩ : _ ∧ k_ ≠ ad))) (fun _ hk => hk.2) (.slice aQ aG.length aR)) (fun _ hk => hk.2) (.slice aW aH.length aX)) (fun _ hk => ⟨hk.1.1, ⟨hk.1.2.1, ⟨hk.1.2.2.1, hk.1.2.2.2⟩⟩⟩)⟩
           have n4_ : Aside0 (Kd.V k27 27 ((w37.setCell ⟨ad, 0, none⟩ (.slice aQ aG.length aR)).setCell ⟨ad, 1, none⟩ (.slice aW aH.length aX)) w.heap.size (fun k_ => some k_ ≠ (.slice (some ad393) ap.length aA : Value).ownBlock ∧ some k_ ≠ (.slice a7 au.length aB : Value).ownBlock ∧ k_ ≠ aj ∧ k_ ≠ ak ∧ k_ ≠ al ∧ k_ ≠ ad) (.slice bu ax.length bv) ax) := ⟨by (with_reducible repeat (first | apply Kd.V_alloc | apply Kd.V_drewN | apply Kd.V_drew)); exact Kd.V_mono (Kd.V_far (p := ⟨ad, 1, none⟩) (Kd.V_far (p := ⟨ad, 0, none⟩) (Kd.V_mono ae.out (fun k_ hk => (⟨hk, hk.2.2.2.2.2⟩ : _ ∧ k_ ≠ ad))) (fun _ hk => hk.2) (.slice aQ aG.length aR)) (fun _ hk => hk.2) (.slice aW aH.length aX)) (fun _ hk => ⟨hk.1.1, ⟨hk.1.2.1, ⟨hk.1.2.2.1, ⟨hk.1.2.2.2.1, ⟨hk.1.2.2.2.2.1, hk.1.2.2.2.2.2⟩⟩⟩⟩⟩)⟩
           have n5_ : Aside0 (Kd.V Kd.string 9 ((w37.setCell ⟨ad, 0, none⟩ (.slice aQ aG.length aR)).setCell ⟨ad, 1, none⟩ (.slice aW aH.length aX)) w.heap.size (fun k_ => some k_ ≠ (.slice (some ad393) ap.length aA : Value).ownBlock ∧ some k_ ≠ (.slice a7 au.length aB : Value).ownBlock ∧ k_ ≠ aj ∧ k_ ≠ ak ∧ k_ ≠ al ∧ k_ ≠ ad) (.slice bs av.length bt) av) := ⟨by (with_reducible repeat (first | apply Kd.V_alloc | apply Kd.V_drewN | apply Kd.V_drew)); exact Kd.V_mono (Kd.V_far (p := ⟨ad, 1, none⟩) (Kd.V_far (p := ⟨ad, 0, none⟩) (Kd.V_mono af.out (fun k_ hk => (⟨hk, hk.2.2.2.2.2⟩ : _ ∧ k_ ≠ ad))) (fun _ hk => hk.2) (.slice aQ aG.length aR)) (fun _ hk => hk.2) (.slice aW aH.length aX)) (fun _ hk => ⟨hk.1.1, ⟨hk.1.2.1, ⟨hk.1.2.2.1, ⟨hk.1.2.2.2.1, ⟨hk.1.2.2.2.2.1, hk.1.2.2.2.2.2⟩⟩⟩⟩⟩)⟩
           have n6_ : Aside0 (Kd.V k27 27 ((w37.setCell ⟨ad, 0, none⟩ (.slice aQ aG.length aR)).setCell ⟨ad, 1, none⟩ (.slice aW aH.length aX)) w.heap.size (fun k_ => k_ ≠ aj ∧ k_ ≠ ak ∧ k_ ≠ al ∧ k_ ≠ ad) (.slice aQ aG.length aR) aG) := ⟨by (with_reducible repeat (first | apply Kd.V_alloc | apply Kd.V_drewN | apply Kd.V_drew)); exact Kd.V_mono (Kd.V_far (p := ⟨ad, 1, none⟩) (Kd.V_far (p := ⟨ad, 0, none⟩) (Kd.V_mono aC.out (fun k_ hk => (⟨hk, hk.2.2.2⟩ : _ ∧ k_ ≠ ad))) (fun _ hk => hk.2) (.slice aQ aG.length aR)) (fun _ hk => hk.2) (.slice aW aH.length aX)) (fun _ hk => ⟨hk.1.1, ⟨hk.1.2.1, ⟨hk.1.2.2.1, hk.1.2.2.2⟩⟩⟩)⟩
           have n7_ : Aside0 (Kd.V Kd.string 9 ((w37.setCell ⟨ad, 0, none⟩ (.slice aQ aG.length aR)).setCell ⟨ad, 1, none⟩ (.slice aW aH.length aX)) w.heap.size (fun k_ => k_ ≠ aj ∧ k_ ≠ ak ∧ k_ ≠ al ∧ k_ ≠ ad) (.slice aW aH.length aX) aH) := ⟨by (with_reducible repeat (first | apply Kd.V_alloc | apply Kd.V_drewN | apply Kd.V_drew)); exact Kd.V_mono (Kd.V_far (p := ⟨ad, 1, none⟩) (Kd.V_far (p := ⟨ad, 0, none⟩) (Kd.V_mono aD.out (fun k_ hk => (⟨hk, hk.2.2.2⟩ : _ ∧ k_ ≠ ad))) (fun _ hk => hk.2) (.slice aQ aG.length aR)) (fun _ hk => hk.2) (.slice aW aH.length aX)) (fun _ hk => ⟨hk.1.1, ⟨hk.1.2.1, ⟨hk.1.2.2.1, hk.1.2.2.2⟩⟩⟩)⟩
           have n8_ : Aside0 (((w37.setCell ⟨ad, 0, none⟩ (.slice aQ aG.length aR)).setCell ⟨ad, 1, none⟩ (.slice aW aH.length aX)).heap[aj]? = some (.cells #[.slice (some ad393) ap.length aA, .slice a7 au.length aB] 25 (0, 0))) := ⟨by (with_reducible repeat (first | apply bn | apply bd | apply ba)); refine blk_far ?_ aJ.out _; (with_reducible repeat (first | apply bn | apply bd | apply ba)); refine blk_far ?_ aJ.out _; exact bT ac.out⟩
           have n9_ : Aside0 (((w37.setCell ⟨ad, 0, none⟩ (.slice aQ aG.length aR)).setCell ⟨ad, 1, none⟩ (.slice aW aH.length aX)).heap[ak]? = some (.cells #[.slice bo ar.length bp, .slice bj aq.length bk] 25 (0, 0))) := ⟨by (with_reducible repeat (first | apply bn | apply bd | apply ba)); refine blk_far ?_ aE.out _; (with_reducible repeat (first | apply bn | apply bd | apply ba)); refine blk_far ?_ aE.out _; exact bT an.out⟩
           have n10_ : Aside0 (((w37.setCell ⟨ad, 0, none⟩ (.slice aQ aG.length aR)).setCell ⟨ad, 1, none⟩ (.slice aW aH.length aX)).heap[al]? = some (.cells #[.slice bu ax.length bv, .slice bs av.length bt] 25 (0, 0))) := ⟨by (with_reducible repeat (first | apply bn | apply bd | apply ba)); refine blk_far ?_ a3.out _; (with_reducible repeat (first | apply bn | apply bd | apply ba)); refine blk_far ?_ a3.out _; exact bT ao.out⟩
           have n11_ : Aside0 (((w37.setCell ⟨ad, 0, none⟩ (.slice aQ aG.length aR)).setCell ⟨ad, 1, none⟩ (.slice aW aH.length aX)).heap[ad]? = some (.cells #[.slice aQ aG.length aR, .slice aW aH.length aX] 25 (0, 0))) := ⟨by (with_reducible repeat (first | apply bn | apply bd | apply ba)); refine blk_put (cs := #[.slice aQ aG.length aR, .slice none 0 0]) ?_ 1 _ rfl; (with_reducible repeat (first | apply bn | apply bd | apply ba)); refine blk_put (cs := #[.slice none 0 0, .slice none 0 0]) ?_ 0 _ rfl; exact bT aw.out⟩
           have n12_ : Aside0 (Below w.heap.size w ((w37.setCell ⟨ad, 0, none⟩ (.slice aQ aG.length aR)).setCell ⟨ad, 1, none⟩ (.slice aW aH.length aX))) := ⟨by repeat (first | (with_reducible first | exact HB.out | apply pA | apply pN | apply pD | refine eU ?_ (by assumption)) | exact HB.out)⟩
           (try clear aa)
           (try clear ab)
           (try clear ag)
           (try clear ah)
           (try clear ae)
           (try clear af)
           (try clear aC)
           (try clear aD)
           (try clear ac)
           (try clear an)
           (try clear ao)
           (try clear aw)
           (try clear HB)
           generalize ((w37.setCell ⟨ad, 0, none⟩ (.slice aQ aG.length aR)).setCell ⟨ad, 1, none⟩ (.slice aW aH.length aX)) = w44 at n0_ n1_ n2_ n3_ n4_ n5_ n6_ n7_ n8_ n9_ n10_ n11_ n12_ ⊢
           have aa := n0_
           have ab := n1_
           have ag := n2_
           have ah := n3_
           have ae := n4_
           have af := n5_
           have aC := n6_
           have aD := n7_
           have ac := n8_
           have an := n9_
           have ao := n10_
           have aw := n11_
           have HB := n12_
           clear n0_ n1_ n2_ n3_ n4_ n5_ n6_ n7_ n8_ n9_ n10_ n11_ n12_
           have n0_ := am (Kd.R_drew aa.out)
           have n1_ := am (Kd.R_drew ab.out)
           have n2_ := am (Kd.V_drew ag.out)
           have n3_ := am (Kd.V_drew ah.out)
           have n4_ := am (Kd.V_drew ae.out)
           have n5_ := am (Kd.V_drew af.out)
           have n6_ := am (Kd.V_drew aC.out)
           have n7_ := am (Kd.V_drew aD.out)
           have n8_ := am (blk_drew ac.out)
           have n9_ := am (blk_drew an.out)
           have n10_ := am (blk_drew ao.out)
           have n11_ := am (blk_drew aw.out)
           have n12_ := am (below_drew1 HB.out)
           clear aa ab ag ah ae af aC aD ac an ao aw HB
           have aa := n0_
           have ab := n1_
           have ag := n2_
           have ah := n3_
           have ae := n4_
           have af := n5_
           have aC := n6_
           have aD := n7_
           have ac := n8_
           have an := n9_
           have ao := n10_
           have aw := n11_
           have HB := n12_
           clear n0_ n1_ n2_ n3_ n4_ n5_ n6_ n7_ n8_ n9_ n10_ n11_ n12_
           have p402 : 0 ≤ ((ay) : Int) := of_decide_eq_true (by first | (with_reducible assumption) | assumption)
           have q402 : (ay) < (ap.length : Int) := of_decide_eq_true (by first | (with_reducible assumption) | assumption)
           obtain ⟨ad402, e402, b1, b2⟩ := at_T27 (Kd.R_reads' aa.out).2.2 (ay) p402 q402
           obtain rfl : ad393 = ad402 := (by injection e402)
           replace p402 := eq_true p402
           replace q402 := eq_true q402
           have p403 : 0 ≤ ((ay) : Int) := of_decide_eq_true (by first | (with_reducible assumption) | assumption)
           have q403 : (ay) < (au.length : Int) := of_decide_eq_true (by first | (with_reducible assumption) | assumption)
           obtain ⟨ad403, e403, b3⟩ := Kd.at_string (Kd.R_reads' ab.out).2.2 (ay) p403 q403
           cases e403
           replace p403 := eq_true p403
           replace q403 := eq_true q403
           refine start_ (n := 18) (S := fun w' => w'.cell? ⟨al, 0, none⟩ = some (.slice bu ax.length bv) ∧ w'.cell? ⟨al, 1, none⟩ = some (.slice bs av.length bt) ∧ w'.cell? ⟨aj, 0, none⟩ = some (.slice (some ad393) ap.length aA) ∧ w'.cell? ⟨aj, 1, none⟩ = some (.slice (some ad403) au.length aB) ∧ w'.cell? (ad393.add (((ay)).toNat * 2)) = some (.string ((rd_T27 ap (ay)).f0)) ∧ w'.cell? ⟨(ad393.add (((ay)).toNat * 2)).block, (ad393.add (((ay)).toNat * 2)).off + 1, none⟩ = some (.string ((rd_T27 ap (ay)).f1)) ∧ w'.cell? (ad403.add ((ay)).toNat) = some (.string (rdOf ByteArray.empty au (ay)))) (ds := []) #[false, false, false, false, false, false, false, false, false, false, false, false, false, false, false, false, false, false] (by kernel_rfl) rfl rfl ⟨(blk_cell ao.out 0).trans rfl, (blk_cell ao.out 1).trans rfl, (blk_cell ac.out 0).trans rfl, (blk_cell ac.out 1).trans rfl, b1, b2, b3⟩ (fun hHeld => ?_); refine with_tabW graftwoodlaw12_StoreEmpties.tab11 graftwoodlaw12_StoreEmpties.bits11 (fun HT_ HW_ => ?_)
           generalize w44.drew = w45 at aa ab ag ah ae af aC aD ac an ao aw HB b1 b2 b3 hHeld ⊢
           refine pure_ (i := 1) (N := some 52) (v := ?_) (a' := ?_) #[false, true, false, false, false, false, false, false, false, false, false, false, false, false, false, false, false, false] rfl rfl (any_of HT_.out (by kernel_rfl)) (fun _ _ _ h => h) (Or.inl ⟨by rfl, ?_⟩) ?_ ?_
           rotate_left
           ·intro w'
            go_simp
            with_reducible rfl
           rotate_left
           ·simp only [pS]
            rfl
           refine pure_ (i := 3) (N := some 54) (v := ?_) (a' := ?_) #[false, true, false, true, false, false, false, false, false, false, false, false, false, false, false, false, false, false] rfl rfl (any_of HT_.out (by kernel_rfl)) (fun _ _ _ h => h) (Or.inl ⟨by rfl, ?_⟩) ?_ ?_
           rotate_left
           ·intro w'
            go_simp
            with_reducible rfl
           rotate_left
           ·simp only [pS]
            rfl
           refine pure_ (i := 6) (N := some 57) (v := ?_) (a' := ?_) #[false, true, false, true, false, false, true, false, false, false, false, false, false, false, false, false, false, false] rfl rfl (any_of HT_.out (by kernel_rfl)) (fun _ _ _ h => h) (Or.inl ⟨by rfl, ?_⟩) ?_ ?_
           rotate_left
           ·intro w'
            go_simp
            with_reducible rfl
           rotate_left
           ·simp only [pS]
            rfl
           refine pure_ (i := 8) (N := some 59) (v := ?_) (a' := ?_) #[false, true, false, true, false, false, true, false, true, false, false, false, false, false, false, false, false, false] rfl rfl (any_of HT_.out (by kernel_rfl)) (fun _ _ _ h => h) (Or.inl ⟨by rfl, ?_⟩) ?_ ?_
           rotate_left
           ·intro w'
            go_simp
            with_reducible rfl
           rotate_left
           ·simp only [pS]
            rfl
           refine take_ (i := 0) (N := some 51) (v := ?_) (a' := ?_) #[true, true, false, true, false, false, true, false, true, false, false, false, false, false, false, false, false, false] rfl rfl (take_ofW HT_.out HW_.out (by kernel_rfl)) (fun _ _ _ h => h) (Or.inl ⟨by rfl, ?_⟩) hHeld ?_ ?_
           rotate_left
           ·rintro w' ⟨s0, s1, s2, s3, s4, s5, s6⟩
            go_simp
            with_reducible rfl
           rotate_left
           ·simp only [pS]
            rfl
           refine take_ (i := 2) (N := some 53) (v := ?_) (a' := ?_) #[true, true, true, true, false, false, true, false, true, false, false, false, false, false, false, false, false, false] rfl rfl (take_ofW HT_.out HW_.out (by kernel_rfl)) (fun _ _ _ h => h) (Or.inl ⟨by rfl, ?_⟩) hHeld ?_ ?_
           rotate_left
           ·rintro w' ⟨s0, s1, s2, s3, s4, s5, s6⟩
            go_simp
            with_reducible rfl
           rotate_left
           ·simp only [pS]
            rfl
           refine pure_ (i := 4) (N := some 55) (v := ?_) (a' := ?_) #[true, true, true, true, true, false, true, false, true, false, false, false, false, false, false, false, false, false] rfl rfl (any_of HT_.out (by kernel_rfl)) (fun _ _ _ h => h) (Or.inl ⟨by rfl, ?_⟩) ?_ ?_
           rotate_left
           ·intro w'
            go_simp
            with_reducible rfl
           rotate_left
           ·simp only [pS]
            rfl
           refine take_ (i := 5) (N := some 56) (v := ?_) (a' := ?_) #[true, true, true, true, true, true, true, false, true, false, false, false, false, false, false, false, false, false] rfl rfl (take_ofW HT_.out HW_.out (by kernel_rfl)) (fun _ _ _ h => h) (Or.inl ⟨by rfl, ?_⟩) hHeld ?_ ?_
           rotate_left
           ·rintro w' ⟨s0, s1, s2, s3, s4, s5, s6⟩
            go_simp
            with_reducible rfl
           rotate_left
           ·simp only [pS]
            rfl
           refine take_ (i := 7) (N := some 58) (v := ?_) (a' := ?_) #[true, true, true, true, true, true, true, true, true, false, false, false, false, false, false, false, false, false] rfl rfl (take_ofW HT_.out HW_.out (by kernel_rfl)) (fun _ _ _ h => h) (Or.inl ⟨by rfl, ?_⟩) hHeld ?_ ?_
           rotate_left
           ·rintro w' ⟨s0, s1, s2, s3, s4, s5, s6⟩
            go_simp
            with_reducible rfl
           rotate_left
           ·simp only [pS]
            rfl
           refine pure_ (i := 9) (N := some 60) (v := ?_) (a' := ?_) #[true, true, true, true, true, true, true, true, true, true, false, false, false, false, false, false, false, false] rfl rfl (any_of HT_.out (by kernel_rfl)) (fun _ _ _ h => h) (Or.inl ⟨by rfl, ?_⟩) ?_ ?_
           rotate_left
           ·intro w'
            go_simp
            with_reducible rfl
           rotate_left
           ·simp only [pS]
            rfl
           refine take_ (i := 10) (N := some 61) (v := ?_) (a' := ?_) #[true, true, true, true, true, true, true, true, true, true, true, false, false, false, false, false, false, false] rfl rfl (take_ofW HT_.out HW_.out (by kernel_rfl)) (fun _ _ _ h => h) (Or.inl ⟨by rfl, ?_⟩) hHeld ?_ ?_
           rotate_left
           ·rintro w' ⟨s0, s1, s2, s3, s4, s5, s6⟩
            go_simp
            with_reducible rfl
           rotate_left
           ·simp only [pS]
            rfl
           refine join_ (σ := Value × Value × Nat) 2 #[true, true, true, true, true, true, true, true, true, true, true, true, true, true, true, true, false, false] (fun s_ => [(62, .tuple #[.agg #[s_.1, s_.2.1], .int .i64 bH]), (12, .pointer (some ⟨s_.2.2, 0, none⟩)), (50, .tuple #[.agg #[s_.1, s_.2.1], .int .i64 bH]), (63, .agg #[s_.1, s_.2.1]), (64, .int .i64 bH)]) (fun s_ w' => (w'.cell? ⟨al, 0, none⟩ = some (.slice bu ax.length bv) ∧ w'.cell? ⟨al, 1, none⟩ = some (.slice bs av.length bt) ∧ w'.cell? ⟨aj, 0, none⟩ = some (.slice (some ad393) ap.length aA) ∧ w'.cell? ⟨aj, 1, none⟩ = some (.slice (some ad403) au.length aB) ∧ w'.cell? (ad393.add (((ay)).toNat * 2)) = some (.string ((rd_T27 ap (ay)).f0)) ∧ w'.cell? ⟨(ad393.add (((ay)).toNat * 2)).block, (ad393.add (((ay)).toNat * 2)).off + 1, none⟩ = some (.string ((rd_T27 ap (ay)).f1)) ∧ w'.cell? (ad403.add ((ay)).toNat) = some (.string (rdOf ByteArray.empty au (ay)))) ∧ (Kd.V k27 27 w' w.heap.size (fun k_ => k_ ≠ aj ∧ k_ ≠ ak ∧ k_ ≠ al ∧ k_ ≠ ad ∧ k_ ≠ s_.2.2) (.slice aQ aG.length aR) aG) ∧ (Kd.V Kd.string 9 w' w.heap.size (fun k_ => k_ ≠ aj ∧ k_ ≠ ak ∧ k_ ≠ al ∧ k_ ≠ ad ∧ k_ ≠ s_.2.2) (.slice aW aH.length aX) aH) ∧ (Kd.V k27 27 w' w.heap.size (fun k_ => some k_ ≠ (.slice (some ad393) ap.length aA : Value).ownBlock ∧ some k_ ≠ (.slice (some ad403) au.length aB : Value).ownBlock ∧ k_ ≠ aj ∧ k_ ≠ ak ∧ k_ ≠ al ∧ k_ ≠ ad ∧ k_ ≠ s_.2.2) s_.1 aI) ∧ (Kd.V Kd.string 9 w' w.heap.size (fun k_ => some k_ ≠ (.slice (some ad393) ap.length aA : Value).ownBlock ∧ some k_ ≠ (.slice (some ad403) au.length aB : Value).ownBlock ∧ k_ ≠ aj ∧ k_ ≠ ak ∧ k_ ≠ al ∧ k_ ≠ ad ∧ k_ ≠ s_.2.2) s_.2.1 aP) ∧ (Kd.R k27 27 w' w.heap.size (fun _ => True) (.slice (some ad393) ap.length aA) ap) ∧ (Kd.R Kd.string 9 w' w.heap.size (fun _ => True) (.slice (some ad403) au.length aB) au) ∧ (Kd.V k27 27 w' w.heap.size (fun k_ => k_ ≠ aj ∧ k_ ≠ ak ∧ k_ ≠ al ∧ k_ ≠ ad ∧ k_ ≠ s_.2.2) (.slice bo ar.length bp) ar) ∧ (Kd.V Kd.string 9 w' w.heap.size (fun k_ => k_ ≠ aj ∧ k_ ≠ ak ∧ k_ ≠ al ∧ k_ ≠ ad ∧ k_ ≠ s_.2.2) (.slice bj aq.length bk) aq) ∧ (Kd.V k27 27 w' w.heap.size (fun k_ => some k_ ≠ (.slice (some ad393) ap.length aA : Value).ownBlock ∧ some k_ ≠ (.slice (some ad403) au.length aB : Value).ownBlock ∧ k_ ≠ aj ∧ k_ ≠ ak ∧ k_ ≠ al ∧ k_ ≠ ad ∧ k_ ≠ s_.2.2) (.slice bu ax.length bv) ax) ∧ (Kd.V Kd.string 9 w' w.heap.size (fun k_ => some k_ ≠ (.slice (some ad393) ap.length aA : Value).ownBlock ∧ some k_ ≠ (.slice (some ad403) au.length aB : Value).ownBlock ∧ k_ ≠ aj ∧ k_ ≠ ak ∧ k_ ≠ al ∧ k_ ≠ ad ∧ k_ ≠ s_.2.2) (.slice bs av.length bt) av) ∧ (w'.heap[aj]? = some (.cells #[.slice (some ad393) ap.length aA, .slice (some ad403) au.length aB] 25 (0, 0))) ∧ (w'.heap[ak]? = some (.cells #[.slice bo ar.length bp, .slice bj aq.length bk] 25 (0, 0))) ∧ (w'.heap[al]? = some (.cells #[.slice bu ax.length bv, .slice bs av.length bt] 25 (0, 0))) ∧ (w'.heap[ad]? = some (.cells #[.slice aQ aG.length aR, .slice aW aH.length aX] 25 (0, 0))) ∧ (w'.heap[s_.2.2]? = some (.cells #[.slice none 0 0, .slice none 0 0] 25 (0, 0))) ∧ (w.heap.size ≤ s_.2.2) ∧ (w.heap.size ≤ s_.2.2) ∧ (aj ≠ s_.2.2) ∧ (s_.2.2 ≠ aj) ∧ (ak ≠ s_.2.2) ∧ (s_.2.2 ≠ ak) ∧ (al ≠ s_.2.2) ∧ (s_.2.2 ≠ al) ∧ (ad ≠ s_.2.2) ∧ (s_.2.2 ≠ ad) ∧ (Below w.heap.size w w')) ?_ ?_
           rotate_left
           ·intro hCont
            refine two_ (i := 11) (j := 15) (Ni := some 62) (Nj := some 12) #[true, true, true, true, true, true, true, true, true, true, true, true, false, false, false, false, false, false] #[true, true, true, true, true, true, true, true, true, true, true, false, false, false, false, true, false, false] rfl rfl rfl rfl (two_of HT_.out (by kernel_rfl)) (by decide) (by decide) (fun K hK => ?_) (fun K hK => ?_)
            ·skip
             refine goes_ Tryd.func9 (by kernel_rfl) rfl #[.agg #[.slice bu ax.length bv, .slice bs av.length bt], .agg #[.string ((rd_T27 ap (ay)).f0), .string ((rd_T27 ap (ay)).f1)], .string (rdOf ByteArray.empty au (ay))] (by rfl) rfl rfl (by (try simp only [List.map_toArray, List.map_cons, List.map_nil]); first | done | (simp only [bL]; rfl) | rfl | (simp only [List.length_drop, List.length_take]; rfl)) ?_
             with_reducible refine (store_Put.calls k1 (fun k_ => (some k_ ≠ (.slice (some ad393) ap.length aA : Value).ownBlock ∧ (some k_ ≠ (.slice (some ad403) au.length aB : Value).ownBlock ∧ (k_ ≠ aj ∧ (k_ ≠ ak ∧ (k_ ≠ al ∧ k_ ≠ ad)))))) _ _ ax (fun k_ => (some k_ ≠ (.slice (some ad393) ap.length aA : Value).ownBlock ∧ (some k_ ≠ (.slice (some ad403) au.length aB : Value).ownBlock ∧ (k_ ≠ aj ∧ (k_ ≠ ak ∧ (k_ ≠ al ∧ k_ ≠ ad)))))) _ _ av ((rd_T27 ap (ay)).f0) ((rd_T27 ap (ay)).f1) (rdOf ByteArray.empty au (ay)) aI aP bH _ ?side1 ?side2 A29.out).mono ?_
             (case side1 => exact ae.out)
             (case side2 => exact af.out)
             rintro e w46 ⟨b8, b9, rfl, ho0, ho1, hb⟩
             have HS4_ := (hb.cell (World.block_lt_of_cell? _ _ (hHeld.2.2.2.2.1))).trans (hHeld.2.2.2.2.1)
             have HS5_ := (hb.cell (World.block_lt_of_cell? _ _ (hHeld.2.2.2.2.2.1))).trans (hHeld.2.2.2.2.2.1)
             have HS6_ := (hb.cell (World.block_lt_of_cell? _ _ (hHeld.2.2.2.2.2.2))).trans (hHeld.2.2.2.2.2.2)
             refine ⟨_, rfl, ?_⟩
             have n0_ := am (rB aa.out hb)
             have n1_ := am (rB ab.out hb)
             have n2_ := am (vB ag.out hb)
             have n3_ := am (vB ah.out hb)
             have n4_ := am (vB ae.out hb)
             have n5_ := am (vB af.out hb)
             have n6_ := am (vB aC.out hb)
             have n7_ := am (vB aD.out hb)
             have n8_ := am (Kd.V_lower (Kd.V_mono (ok' := fun k_ => some k_ ≠ (.slice (some ad393) ap.length aA : Value).ownBlock ∧ some k_ ≠ (.slice (some ad403) au.length aB : Value).ownBlock ∧ k_ ≠ aj ∧ k_ ≠ ak ∧ k_ ≠ al ∧ k_ ≠ ad) ho0 (fun k_ hk_ => ⟨Or.elim hk_ (fun hs_ => Or.elim hs_ (fun hs_ => hs_.1) (fun hs_ => hs_.1)) (fun hn_ => (Kd.fresh' (Kd.R_lt (rT aa.out)) k_ hn_)), Or.elim hk_ (fun hs_ => Or.elim hs_ (fun hs_ => hs_.2.1) (fun hs_ => hs_.2.1)) (fun hn_ => (Kd.fresh' (Kd.R_lt (rT ab.out)) k_ hn_)), oE hk_ (·.2.2.1) (fB ac.out k_), oE hk_ (·.2.2.2.1) (fB an.out k_), oE hk_ (·.2.2.2.2.1) (fB ao.out k_), oE hk_ (·.2.2.2.2.2) (fB aw.out k_)⟩)) (below_size (eT HB.out)))
             have n9_ := am (Kd.V_lower (Kd.V_mono (ok' := fun k_ => some k_ ≠ (.slice (some ad393) ap.length aA : Value).ownBlock ∧ some k_ ≠ (.slice (some ad403) au.length aB : Value).ownBlock ∧ k_ ≠ aj ∧ k_ ≠ ak ∧ k_ ≠ al ∧ k_ ≠ ad) ho1 (fun k_ hk_ => ⟨Or.elim hk_ (fun hs_ => Or.elim hs_ (fun hs_ => hs_.1) (fun hs_ => hs_.1)) (fun hn_ => (Kd.fresh' (Kd.R_lt (rT aa.out)) k_ hn_)), Or.elim hk_ (fun hs_ => Or.elim hs_ (fun hs_ => hs_.2.1) (fun hs_ => hs_.2.1)) (fun hn_ => (Kd.fresh' (Kd.R_lt (rT ab.out)) k_ hn_)), oE hk_ (·.2.2.1) (fB ac.out k_), oE hk_ (·.2.2.2.1) (fB an.out k_), oE hk_ (·.2.2.2.2.1) (fB ao.out k_), oE hk_ (·.2.2.2.2.2) (fB aw.out k_)⟩)) (below_size (eT HB.out)))
             have n10_ := am (bB ac.out hb)
             have n11_ := am (bB an.out hb)
             have n12_ := am (bB ao.out hb)
             have n13_ := am (bB aw.out hb)
             have n14_ := am (sT HB.out hb)
             clear aa ab ag ah ae af aC aD ac an ao aw HB
             have aa := n0_
             have ab := n1_
             have ag := n2_
             have ah := n3_
             have ae := n4_
             have af := n5_
             have aC := n6_
             have aD := n7_
             have be := n8_
             have bf := n9_
             have ac := n10_
             have an := n11_
             have ao := n12_
             have aw := n13_
             have HB := n14_
             clear n0_ n1_ n2_ n3_ n4_ n5_ n6_ n7_ n8_ n9_ n10_ n11_ n12_ n13_ n14_
             (try clear hb)
             (try clear hb2)
             (try clear hk)
             (try clear hi)
             (try clear ho0)
             (try clear ho1)
             refine hK.out _ _ ⟨(blk_cell ao.out 0).trans rfl, (blk_cell ao.out 1).trans rfl, (blk_cell ac.out 0).trans rfl, (blk_cell ac.out 1).trans rfl, HS4_, HS5_, HS6_⟩ (fun hHeld => ?_)
             clear hK K
             refine norm_ (a' := ?_) ?_ ?_
             rotate_left
             ·show Act.put _ (some 62) _ = _
              simp only [pS]
              rfl
             refine pure_ (i := 12) (N := some 50) (v := ?_) (a' := ?_) #[true, true, true, true, true, true, true, true, true, true, true, true, true, false, false, false, false, false] rfl rfl (any_of HT_.out (by kernel_rfl)) (fun _ _ _ h => h) (Or.inl ⟨by rfl, ?_⟩) ?_ ?_
             rotate_left
             ·intro w'
              go_simp
              with_reducible rfl
             rotate_left
             ·simp only [pS]
              rfl
             refine pure_ (i := 13) (N := some 63) (v := ?_) (a' := ?_) #[true, true, true, true, true, true, true, true, true, true, true, true, true, true, false, false, false, false] rfl rfl (any_of HT_.out (by kernel_rfl)) (fun _ _ _ h => h) (Or.inl ⟨by rfl, ?_⟩) ?_ ?_
             rotate_left
             ·intro w'
              go_simp
              with_reducible rfl
             rotate_left
             ·simp only [pS]
              rfl
             refine pure_ (i := 14) (N := some 64) (v := ?_) (a' := ?_) #[true, true, true, true, true, true, true, true, true, true, true, true, true, true, true, false, false, false] rfl rfl (any_of HT_.out (by kernel_rfl)) (fun _ _ _ h => h) (Or.inl ⟨by rfl, ?_⟩) ?_ ?_
             rotate_left
             ·intro w'
              go_simp
              with_reducible rfl
             rotate_left
             ·simp only [pS]
              rfl
             refine one_ (i := 15) (N := some 12) #[true, true, true, true, true, true, true, true, true, true, true, true, true, true, true, true, false, false] rfl rfl (one_of HT_.out (by kernel_rfl)) (by decide) (fun K hK => ?_)
             refine box_step ?hg (N := 12) ?hd (cs := #[.slice none 0 0, .slice none 0 0]) (t := 25) ?hr ?_; (case hd => rfl); (case hg => rfl); (case hr => first | (go_simp; done) | (go_simp; rfl))
             intro ai hg w47 hbox hb
             have HS4_ := (hb.cell (World.block_lt_of_cell? _ _ (hHeld.2.2.2.2.1))).trans (hHeld.2.2.2.2.1)
             have HS5_ := (hb.cell (World.block_lt_of_cell? _ _ (hHeld.2.2.2.2.2.1))).trans (hHeld.2.2.2.2.2.1)
             have HS6_ := (hb.cell (World.block_lt_of_cell? _ _ (hHeld.2.2.2.2.2.2))).trans (hHeld.2.2.2.2.2.2)
             have n0_ := am (rB aa.out hb)
             have n1_ := am (rB ab.out hb)
             have n2_ := am (Kd.V_below (Kd.V_elderB (vT ag.out) ai (Nat.le_of_eq hg.symm)) hb)
             have n3_ := am (Kd.V_below (Kd.V_elderB (vT ah.out) ai (Nat.le_of_eq hg.symm)) hb)
             have n4_ := am (Kd.V_below (Kd.V_elderB (vT ae.out) ai (Nat.le_of_eq hg.symm)) hb)
             have n5_ := am (Kd.V_below (Kd.V_elderB (vT af.out) ai (Nat.le_of_eq hg.symm)) hb)
             have n6_ := am (Kd.V_below (Kd.V_elderB (vT aC.out) ai (Nat.le_of_eq hg.symm)) hb)
             have n7_ := am (Kd.V_below (Kd.V_elderB (vT aD.out) ai (Nat.le_of_eq hg.symm)) hb)
             have n8_ := am (Kd.V_below (Kd.V_elderB (vT be.out) ai (Nat.le_of_eq hg.symm)) hb)
             have n9_ := am (Kd.V_below (Kd.V_elderB (vT bf.out) ai (Nat.le_of_eq hg.symm)) hb)
             have n10_ := am (bB ac.out hb)
             have n11_ := am (bB an.out hb)
             have n12_ := am (bB ao.out hb)
             have n13_ := am (bB aw.out hb)
             have n14_ := am (sT HB.out hb)
             have n15_ := am (hbox)
             have n16_ := am ((gT hg HB.out))
             have n17_ := am ((gT hg HB.out))
             have n18_ := am ((nT ac.out hg))
             have n19_ := am ((mT ac.out hg))
             have n20_ := am ((nT an.out hg))
             have n21_ := am ((mT an.out hg))
             have n22_ := am ((nT ao.out hg))
             have n23_ := am ((mT ao.out hg))
             have n24_ := am ((nT aw.out hg))
             have n25_ := am ((mT aw.out hg))
             clear aa ab ag ah ae af aC aD be bf ac an ao aw HB
             have aa := n0_
             have ab := n1_
             have ag := n2_
             have ah := n3_
             have ae := n4_
             have af := n5_
             have aC := n6_
             have aD := n7_
             have be := n8_
             have bf := n9_
             have ac := n10_
             have an := n11_
             have ao := n12_
             have aw := n13_
             have HB := n14_
             have az := n15_
             have b4 := n16_
             have b5 := n17_
             have aM := n18_
             have bh := n19_
             have a4 := n20_
             have aN := n21_
             have aF := n22_
             have aO := n23_
             have a_ := n24_
             have bi := n25_
             clear n0_ n1_ n2_ n3_ n4_ n5_ n6_ n7_ n8_ n9_ n10_ n11_ n12_ n13_ n14_ n15_ n16_ n17_ n18_ n19_ n20_ n21_ n22_ n23_ n24_ n25_ hb hbox hg
             refine hK.out _ _ ⟨(blk_cell ao.out 0).trans rfl, (blk_cell ao.out 1).trans rfl, (blk_cell ac.out 0).trans rfl, (blk_cell ac.out 1).trans rfl, HS4_, HS5_, HS6_⟩ (fun hHeld => ?_)
             clear hK K
             refine norm_ (a' := ?_) ?_ ?_
             rotate_left
             ·show Act.put _ (some 12) _ = _
              simp only [pS]
              rfl
             exact norm_ (by simp only [putAll, Act.put, List.setIfInBounds_toArray, List.set_cons_zero, List.set_cons_succ]) (hCont (b8, b9, ai) _ ⟨hHeld, (by (with_reducible repeat (first | apply Kd.V_alloc | apply Kd.V_drewN | apply Kd.V_drew)); exact Kd.V_mono aC.out (fun _ hk => ⟨hk.1.1, ⟨hk.1.2.1, ⟨hk.1.2.2.1, ⟨hk.1.2.2.2, hk.2⟩⟩⟩⟩)), (by (with_reducible repeat (first | apply Kd.V_alloc | apply Kd.V_drewN | apply Kd.V_drew)); exact Kd.V_mono aD.out (fun _ hk => ⟨hk.1.1, ⟨hk.1.2.1, ⟨hk.1.2.2.1, ⟨hk.1.2.2.2, hk.2⟩⟩⟩⟩)), (by (with_reducible repeat (first | apply Kd.V_alloc | apply Kd.V_drewN | apply Kd.V_drew)); exact Kd.V_mono be.out (fun _ hk => ⟨hk.1.1, ⟨hk.1.2.1, ⟨hk.1.2.2.1, ⟨hk.1.2.2.2.1, ⟨hk.1.2.2.2.2.1, ⟨hk.1.2.2.2.2.2, hk.2⟩⟩⟩⟩⟩⟩)), (by (with_reducible repeat (first | apply Kd.V_alloc | apply Kd.V_drewN | apply Kd.V_drew)); exact Kd.V_mono bf.out (fun _ hk => ⟨hk.1.1, ⟨hk.1.2.1, ⟨hk.1.2.2.1, ⟨hk.1.2.2.2.1, ⟨hk.1.2.2.2.2.1, ⟨hk.1.2.2.2.2.2, hk.2⟩⟩⟩⟩⟩⟩)), (rT aa.out), (rT ab.out), (by (with_reducible repeat (first | apply Kd.V_alloc | apply Kd.V_drewN | apply Kd.V_drew)); exact Kd.V_mono ag.out (fun _ hk => ⟨hk.1.1, ⟨hk.1.2.1, ⟨hk.1.2.2.1, ⟨hk.1.2.2.2, hk.2⟩⟩⟩⟩)), (by (with_reducible repeat (first | apply Kd.V_alloc | apply Kd.V_drewN | apply Kd.V_drew)); exact Kd.V_mono ah.out (fun _ hk => ⟨hk.1.1, ⟨hk.1.2.1, ⟨hk.1.2.2.1, ⟨hk.1.2.2.2, hk.2⟩⟩⟩⟩)), (by (with_reducible repeat (first | apply Kd.V_alloc | apply Kd.V_drewN | apply Kd.V_drew)); exact Kd.V_mono ae.out (fun _ hk => ⟨hk.1.1, ⟨hk.1.2.1, ⟨hk.1.2.2.1, ⟨hk.1.2.2.2.1, ⟨hk.1.2.2.2.2.1, ⟨hk.1.2.2.2.2.2, hk.2⟩⟩⟩⟩⟩⟩)), (by (with_reducible repeat (first | apply Kd.V_alloc | apply Kd.V_drewN | apply Kd.V_drew)); exact Kd.V_mono af.out (fun _ hk => ⟨hk.1.1, ⟨hk.1.2.1, ⟨hk.1.2.2.1, ⟨hk.1.2.2.2.1, ⟨hk.1.2.2.2.2.1, ⟨hk.1.2.2.2.2.2, hk.2⟩⟩⟩⟩⟩⟩)), (bT ac.out), (bT an.out), (bT ao.out), (bT aw.out), (bT az.out), b4.out, b5.out, aM.out, bh.out, a4.out, aN.out, aF.out, aO.out, a_.out, bi.out, (eT HB.out)⟩)
            ·skip
             refine box_step ?hg (N := 12) ?hd (cs := #[.slice none 0 0, .slice none 0 0]) (t := 25) ?hr ?_; (case hd => rfl); (case hg => rfl); (case hr => first | (go_simp; done) | (go_simp; rfl))
             intro ai hg w46 hbox hb
             have HS4_ := (hb.cell (World.block_lt_of_cell? _ _ (hHeld.2.2.2.2.1))).trans (hHeld.2.2.2.2.1)
             have HS5_ := (hb.cell (World.block_lt_of_cell? _ _ (hHeld.2.2.2.2.2.1))).trans (hHeld.2.2.2.2.2.1)
             have HS6_ := (hb.cell (World.block_lt_of_cell? _ _ (hHeld.2.2.2.2.2.2))).trans (hHeld.2.2.2.2.2.2)
             have n0_ := am (rB aa.out hb)
             have n1_ := am (rB ab.out hb)
             have n2_ := am (Kd.V_below (Kd.V_elderB (vT ag.out) ai (Nat.le_of_eq hg.symm)) hb)
             have n3_ := am (Kd.V_below (Kd.V_elderB (vT ah.out) ai (Nat.le_of_eq hg.symm)) hb)
             have n4_ := am (Kd.V_below (Kd.V_elderB (vT ae.out) ai (Nat.le_of_eq hg.symm)) hb)
             have n5_ := am (Kd.V_below (Kd.V_elderB (vT af.out) ai (Nat.le_of_eq hg.symm)) hb)
             have n6_ := am (Kd.V_below (Kd.V_elderB (vT aC.out) ai (Nat.le_of_eq hg.symm)) hb)
             have n7_ := am (Kd.V_below (Kd.V_elderB (vT aD.out) ai (Nat.le_of_eq hg.symm)) hb)
             have n8_ := am (bB ac.out hb)
             have n9_ := am (bB an.out hb)
             have n10_ := am (bB ao.out hb)
             have n11_ := am (bB aw.out hb)
             have n12_ := am (sT HB.out hb)
             have n13_ := am (hbox)
             have n14_ := am ((gT hg HB.out))
             have n15_ := am ((gT hg HB.out))
             have n16_ := am ((nT ac.out hg))
             have n17_ := am ((mT ac.out hg))
             have n18_ := am ((nT an.out hg))
             have n19_ := am ((mT an.out hg))
             have n20_ := am ((nT ao.out hg))
             have n21_ := am ((mT ao.out hg))
             have n22_ := am ((nT aw.out hg))
             have n23_ := am ((mT aw.out hg))
             clear aa ab ag ah ae af aC aD ac an ao aw HB
             have aa := n0_
             have ab := n1_
             have ag := n2_
             have ah := n3_
             have ae := n4_
             have af := n5_
             have aC := n6_
             have aD := n7_
             have ac := n8_
             have an := n9_
             have ao := n10_
             have aw := n11_
             have HB := n12_
             have az := n13_
             have b4 := n14_
             have b5 := n15_
             have aM := n16_
             have bh := n17_
             have a4 := n18_
             have aN := n19_
             have aF := n20_
             have aO := n21_
             have a_ := n22_
             have bi := n23_
             clear n0_ n1_ n2_ n3_ n4_ n5_ n6_ n7_ n8_ n9_ n10_ n11_ n12_ n13_ n14_ n15_ n16_ n17_ n18_ n19_ n20_ n21_ n22_ n23_ hb hbox hg
             refine hK.out _ _ ⟨(blk_cell ao.out 0).trans rfl, (blk_cell ao.out 1).trans rfl, (blk_cell ac.out 0).trans rfl, (blk_cell ac.out 1).trans rfl, HS4_, HS5_, HS6_⟩ (fun hHeld => ?_)
             clear hK K
             refine norm_ (a' := ?_) ?_ ?_
             rotate_left
             ·show Act.put _ (some 12) _ = _
              simp only [pS]
              rfl
             refine one_ (i := 11) (N := some 62) #[true, true, true, true, true, true, true, true, true, true, true, true, false, false, false, true, false, false] rfl rfl (one_of HT_.out (by kernel_rfl)) (by decide) (fun K hK => ?_)
             refine goes_ Tryd.func9 (by kernel_rfl) rfl #[.agg #[.slice bu ax.length bv, .slice bs av.length bt], .agg #[.string ((rd_T27 ap (ay)).f0), .string ((rd_T27 ap (ay)).f1)], .string (rdOf ByteArray.empty au (ay))] (by rfl) rfl rfl (by (try simp only [List.map_toArray, List.map_cons, List.map_nil]); first | done | (simp only [bL]; rfl) | rfl | (simp only [List.length_drop, List.length_take]; rfl)) ?_
             with_reducible refine (store_Put.calls k1 (fun k_ => ((some k_ ≠ (.slice (some ad393) ap.length aA : Value).ownBlock ∧ (some k_ ≠ (.slice (some ad403) au.length aB : Value).ownBlock ∧ (k_ ≠ aj ∧ (k_ ≠ ak ∧ (k_ ≠ al ∧ k_ ≠ ad))))) ∧ k_ ≠ ai)) _ _ ax (fun k_ => ((some k_ ≠ (.slice (some ad393) ap.length aA : Value).ownBlock ∧ (some k_ ≠ (.slice (some ad403) au.length aB : Value).ownBlock ∧ (k_ ≠ aj ∧ (k_ ≠ ak ∧ (k_ ≠ al ∧ k_ ≠ ad))))) ∧ k_ ≠ ai)) _ _ av ((rd_T27 ap (ay)).f0) ((rd_T27 ap (ay)).f1) (rdOf ByteArray.empty au (ay)) aI aP bH _ ?side1 ?side2 A29.out).mono ?_
             (case side1 => exact ae.out)
             (case side2 => exact af.out)
             rintro e w47 ⟨b8, b9, rfl, ho0, ho1, hb⟩
             have HS4_ := (hb.cell (World.block_lt_of_cell? _ _ (hHeld.2.2.2.2.1))).trans (hHeld.2.2.2.2.1)
             have HS5_ := (hb.cell (World.block_lt_of_cell? _ _ (hHeld.2.2.2.2.2.1))).trans (hHeld.2.2.2.2.2.1)
             have HS6_ := (hb.cell (World.block_lt_of_cell? _ _ (hHeld.2.2.2.2.2.2))).trans (hHeld.2.2.2.2.2.2)
             refine ⟨_, rfl, ?_⟩
             have n0_ := am (rB aa.out hb)
             have n1_ := am (rB ab.out hb)
             have n2_ := am (vB ag.out hb)
             have n3_ := am (vB ah.out hb)
             have n4_ := am (vB ae.out hb)
             have n5_ := am (vB af.out hb)
             have n6_ := am (vB aC.out hb)
             have n7_ := am (vB aD.out hb)
             have n8_ := am (Kd.V_lower (Kd.V_mono (ok' := fun k_ => some k_ ≠ (.slice (some ad393) ap.length aA : Value).ownBlock ∧ some k_ ≠ (.slice (some ad403) au.length aB : Value).ownBlock ∧ k_ ≠ aj ∧ k_ ≠ ak ∧ k_ ≠ al ∧ k_ ≠ ad ∧ k_ ≠ ai) ho0 (fun k_ hk_ => ⟨Or.elim hk_ (fun hs_ => Or.elim hs_ (fun hs_ => hs_.1.1) (fun hs_ => hs_.1.1)) (fun hn_ => (Kd.fresh' (Kd.R_lt (rT aa.out)) k_ hn_)), Or.elim hk_ (fun hs_ => Or.elim hs_ (fun hs_ => hs_.1.2.1) (fun hs_ => hs_.1.2.1)) (fun hn_ => (Kd.fresh' (Kd.R_lt (rT ab.out)) k_ hn_)), oE hk_ (·.1.2.2.1) (fB ac.out k_), oE hk_ (·.1.2.2.2.1) (fB an.out k_), oE hk_ (·.1.2.2.2.2.1) (fB ao.out k_), oE hk_ (·.1.2.2.2.2.2) (fB aw.out k_), oE hk_ (·.2) (fB az.out k_)⟩)) (below_size (eT HB.out)))
             have n9_ := am (Kd.V_lower (Kd.V_mono (ok' := fun k_ => some k_ ≠ (.slice (some ad393) ap.length aA : Value).ownBlock ∧ some k_ ≠ (.slice (some ad403) au.length aB : Value).ownBlock ∧ k_ ≠ aj ∧ k_ ≠ ak ∧ k_ ≠ al ∧ k_ ≠ ad ∧ k_ ≠ ai) ho1 (fun k_ hk_ => ⟨Or.elim hk_ (fun hs_ => Or.elim hs_ (fun hs_ => hs_.1.1) (fun hs_ => hs_.1.1)) (fun hn_ => (Kd.fresh' (Kd.R_lt (rT aa.out)) k_ hn_)), Or.elim hk_ (fun hs_ => Or.elim hs_ (fun hs_ => hs_.1.2.1) (fun hs_ => hs_.1.2.1)) (fun hn_ => (Kd.fresh' (Kd.R_lt (rT ab.out)) k_ hn_)), oE hk_ (·.1.2.2.1) (fB ac.out k_), oE hk_ (·.1.2.2.2.1) (fB an.out k_), oE hk_ (·.1.2.2.2.2.1) (fB ao.out k_), oE hk_ (·.1.2.2.2.2.2) (fB aw.out k_), oE hk_ (·.2) (fB az.out k_)⟩)) (below_size (eT HB.out)))
             have n10_ := am (bB ac.out hb)
             have n11_ := am (bB an.out hb)
             have n12_ := am (bB ao.out hb)
             have n13_ := am (bB aw.out hb)
             have n14_ := am (bB az.out hb)
             have n15_ := am (sT HB.out hb)
             clear aa ab ag ah ae af aC aD ac an ao aw az HB
             have aa := n0_
             have ab := n1_
             have ag := n2_
             have ah := n3_
             have ae := n4_
             have af := n5_
             have aC := n6_
             have aD := n7_
             have be := n8_
             have bf := n9_
             have ac := n10_
             have an := n11_
             have ao := n12_
             have aw := n13_
             have az := n14_
             have HB := n15_
             clear n0_ n1_ n2_ n3_ n4_ n5_ n6_ n7_ n8_ n9_ n10_ n11_ n12_ n13_ n14_ n15_
             (try clear hb)
             (try clear hb2)
             (try clear hk)
             (try clear hi)
             (try clear ho0)
             (try clear ho1)
             refine hK.out _ _ ⟨(blk_cell ao.out 0).trans rfl, (blk_cell ao.out 1).trans rfl, (blk_cell ac.out 0).trans rfl, (blk_cell ac.out 1).trans rfl, HS4_, HS5_, HS6_⟩ (fun hHeld => ?_)
             clear hK K
             refine norm_ (a' := ?_) ?_ ?_
             rotate_left
             ·show Act.put _ (some 62) _ = _
              simp only [pS]
              rfl
             refine pure_ (i := 12) (N := some 50) (v := ?_) (a' := ?_) #[true, true, true, true, true, true, true, true, true, true, true, true, true, false, false, true, false, false] rfl rfl (any_of HT_.out (by kernel_rfl)) (fun _ _ _ h => h) (Or.inl ⟨by rfl, ?_⟩) ?_ ?_
             rotate_left
             ·intro w'
              go_simp
              with_reducible rfl
             rotate_left
             ·simp only [pS]
              rfl
             refine pure_ (i := 13) (N := some 63) (v := ?_) (a' := ?_) #[true, true, true, true, true, true, true, true, true, true, true, true, true, true, false, true, false, false] rfl rfl (any_of HT_.out (by kernel_rfl)) (fun _ _ _ h => h) (Or.inl ⟨by rfl, ?_⟩) ?_ ?_
             rotate_left
             ·intro w'
              go_simp
              with_reducible rfl
             rotate_left
             ·simp only [pS]
              rfl
             refine pure_ (i := 14) (N := some 64) (v := ?_) (a' := ?_) #[true, true, true, true, true, true, true, true, true, true, true, true, true, true, true, true, false, false] rfl rfl (any_of HT_.out (by kernel_rfl)) (fun _ _ _ h => h) (Or.inl ⟨by rfl, ?_⟩) ?_ ?_
             rotate_left
             ·intro w'
              go_simp
              with_reducible rfl
             rotate_left
             ·simp only [pS]
              rfl
             exact norm_ (by simp only [putAll, Act.put, List.setIfInBounds_toArray, List.set_cons_zero, List.set_cons_succ]) (hCont (b8, b9, ai) _ ⟨hHeld, (by (with_reducible repeat (first | apply Kd.V_alloc | apply Kd.V_drewN | apply Kd.V_drew)); exact Kd.V_mono aC.out (fun _ hk => ⟨hk.1.1, ⟨hk.1.2.1, ⟨hk.1.2.2.1, ⟨hk.1.2.2.2, hk.2⟩⟩⟩⟩)), (by (with_reducible repeat (first | apply Kd.V_alloc | apply Kd.V_drewN | apply Kd.V_drew)); exact Kd.V_mono aD.out (fun _ hk => ⟨hk.1.1, ⟨hk.1.2.1, ⟨hk.1.2.2.1, ⟨hk.1.2.2.2, hk.2⟩⟩⟩⟩)), (vT be.out), (vT bf.out), (rT aa.out), (rT ab.out), (by (with_reducible repeat (first | apply Kd.V_alloc | apply Kd.V_drewN | apply Kd.V_drew)); exact Kd.V_mono ag.out (fun _ hk => ⟨hk.1.1, ⟨hk.1.2.1, ⟨hk.1.2.2.1, ⟨hk.1.2.2.2, hk.2⟩⟩⟩⟩)), (by (with_reducible repeat (first | apply Kd.V_alloc | apply Kd.V_drewN | apply Kd.V_drew)); exact Kd.V_mono ah.out (fun _ hk => ⟨hk.1.1, ⟨hk.1.2.1, ⟨hk.1.2.2.1, ⟨hk.1.2.2.2, hk.2⟩⟩⟩⟩)), (by (with_reducible repeat (first | apply Kd.V_alloc | apply Kd.V_drewN | apply Kd.V_drew)); exact Kd.V_mono ae.out (fun _ hk => ⟨hk.1.1, ⟨hk.1.2.1, ⟨hk.1.2.2.1, ⟨hk.1.2.2.2.1, ⟨hk.1.2.2.2.2.1, ⟨hk.1.2.2.2.2.2, hk.2⟩⟩⟩⟩⟩⟩)), (by (with_reducible repeat (first | apply Kd.V_alloc | apply Kd.V_drewN | apply Kd.V_drew)); exact Kd.V_mono af.out (fun _ hk => ⟨hk.1.1, ⟨hk.1.2.1, ⟨hk.1.2.2.1, ⟨hk.1.2.2.2.1, ⟨hk.1.2.2.2.2.1, ⟨hk.1.2.2.2.2.2, hk.2⟩⟩⟩⟩⟩⟩)), (bT ac.out), (bT an.out), (bT ao.out), (bT aw.out), (bT az.out), b4.out, b5.out, aM.out, bh.out, a4.out, aN.out, aF.out, aO.out, a_.out, bi.out, (eT HB.out)⟩)
           rintro ⟨b8, b9, ai⟩ w48 ⟨hS_, h0_, h1_, h2_, h3_, h4_, h5_, h6_, h7_, h8_, h9_, h10_, h11_, h12_, h13_, h14_, h15_, h16_, h17_, h18_, h19_, h20_, h21_, h22_, h23_, h24_, h25_⟩
           have n0_ : Aside0 (Kd.V k27 27 w48 w.heap.size (fun k_ => k_ ≠ aj ∧ k_ ≠ ak ∧ k_ ≠ al ∧ k_ ≠ ad ∧ k_ ≠ ai) (.slice aQ aG.length aR) aG) := ⟨h0_⟩
           have n1_ : Aside0 (Kd.V Kd.string 9 w48 w.heap.size (fun k_ => k_ ≠ aj ∧ k_ ≠ ak ∧ k_ ≠ al ∧ k_ ≠ ad ∧ k_ ≠ ai) (.slice aW aH.length aX) aH) := ⟨h1_⟩
           have n2_ : Aside0 (Kd.V k27 27 w48 w.heap.size (fun k_ => some k_ ≠ (.slice (some ad393) ap.length aA : Value).ownBlock ∧ some k_ ≠ (.slice (some ad403) au.length aB : Value).ownBlock ∧ k_ ≠ aj ∧ k_ ≠ ak ∧ k_ ≠ al ∧ k_ ≠ ad ∧ k_ ≠ ai) b8 aI) := ⟨h2_⟩
           have n3_ : Aside0 (Kd.V Kd.string 9 w48 w.heap.size (fun k_ => some k_ ≠ (.slice (some ad393) ap.length aA : Value).ownBlock ∧ some k_ ≠ (.slice (some ad403) au.length aB : Value).ownBlock ∧ k_ ≠ aj ∧ k_ ≠ ak ∧ k_ ≠ al ∧ k_ ≠ ad ∧ k_ ≠ ai) b9 aP) := ⟨h3_⟩
           have n4_ : Aside0 (Kd.R k27 27 w48 w.heap.size (fun _ => True) (.slice (some ad393) ap.length aA) ap) := ⟨h4_⟩
           have n5_ : Aside0 (Kd.R Kd.string 9 w48 w.heap.size (fun _ => True) (.slice (some ad403) au.length aB) au) := ⟨h5_⟩
           have n6_ : Aside0 (Kd.V k27 27 w48 w.heap.size (fun k_ => k_ ≠ aj ∧ k_ ≠ ak ∧ k_ ≠ al ∧ k_ ≠ ad ∧ k_ ≠ ai) (.slice bo ar.length bp) ar) := ⟨h6_⟩
           have n7_ : Aside0 (Kd.V Kd.string 9 w48 w.heap.size (fun k_ => k_ ≠ aj ∧ k_ ≠ ak ∧ k_ ≠ al ∧ k_ ≠ ad ∧ k_ ≠ ai) (.slice bj aq.length bk) aq) := ⟨h7_⟩
           have n8_ : Aside0 (Kd.V k27 27 w48 w.heap.size (fun k_ => some k_ ≠ (.slice (some ad393) ap.length aA : Value).ownBlock ∧ some k_ ≠ (.slice (some ad403) au.length aB : Value).ownBlock ∧ k_ ≠ aj ∧ k_ ≠ ak ∧ k_ ≠ al ∧ k_ ≠ ad ∧ k_ ≠ ai) (.slice bu ax.length bv) ax) := ⟨h8_⟩
           have n9_ : Aside0 (Kd.V Kd.string 9 w48 w.heap.size (fun k_ => some k_ ≠ (.slice (some ad393) ap.length aA : Value).ownBlock ∧ some k_ ≠ (.slice (some ad403) au.length aB : Value).ownBlock ∧ k_ ≠ aj ∧ k_ ≠ ak ∧ k_ ≠ al ∧ k_ ≠ ad ∧ k_ ≠ ai) (.slice bs av.length bt) av) := ⟨h9_⟩
           have n10_ : Aside0 (w48.heap[aj]? = some (.cells #[.slice (some ad393) ap.length aA, .slice (some ad403) au.length aB] 25 (0, 0))) := ⟨h10_⟩
           have n11_ : Aside0 (w48.heap[ak]? = some (.cells #[.slice bo ar.length bp, .slice bj aq.length bk] 25 (0, 0))) := ⟨h11_⟩
           have n12_ : Aside0 (w48.heap[al]? = some (.cells #[.slice bu ax.length bv, .slice bs av.length bt] 25 (0, 0))) := ⟨h12_⟩
           have n13_ : Aside0 (w48.heap[ad]? = some (.cells #[.slice aQ aG.length aR, .slice aW aH.length aX] 25 (0, 0))) := ⟨h13_⟩
           have n14_ : Aside0 (w48.heap[ai]? = some (.cells #[.slice none 0 0, .slice none 0 0] 25 (0, 0))) := ⟨h14_⟩
           have n15_ : Aside0 (w.heap.size ≤ ai) := ⟨h15_⟩
           have n16_ : Aside0 (w.heap.size ≤ ai) := ⟨h16_⟩
           have n17_ : Aside0 (aj ≠ ai) := ⟨h17_⟩
           have n18_ : Aside0 (ai ≠ aj) := ⟨h18_⟩
           have n19_ : Aside0 (ak ≠ ai) := ⟨h19_⟩
           have n20_ : Aside0 (ai ≠ ak) := ⟨h20_⟩
           have n21_ : Aside0 (al ≠ ai) := ⟨h21_⟩
           have n22_ : Aside0 (ai ≠ al) := ⟨h22_⟩
           have n23_ : Aside0 (ad ≠ ai) := ⟨h23_⟩
           have n24_ : Aside0 (ai ≠ ad) := ⟨h24_⟩
           have n25_ : Aside0 (Below w.heap.size w w48) := ⟨h25_⟩
           clear aa ab ag ah ae af aC aD ac an ao aw HB h0_ h1_ h2_ h3_ h4_ h5_ h6_ h7_ h8_ h9_ h10_ h11_ h12_ h13_ h14_ h15_ h16_ h17_ h18_ h19_ h20_ h21_ h22_ h23_ h24_ h25_
           have aC := n0_
           have aD := n1_
           have be := n2_
           have bf := n3_
           have aa := n4_
           have ab := n5_
           have ag := n6_
           have ah := n7_
           have ae := n8_
           have af := n9_
           have ac := n10_
           have an := n11_
           have ao := n12_
           have aw := n13_
           have az := n14_
           have b4 := n15_
           have b5 := n16_
           have aM := n17_
           have bh := n18_
           have a4 := n19_
           have aN := n20_
           have aF := n21_
           have aO := n22_
           have a_ := n23_
           have bi := n24_
           have HB := n25_
           clear n0_ n1_ n2_ n3_ n4_ n5_ n6_ n7_ n8_ n9_ n10_ n11_ n12_ n13_ n14_ n15_ n16_ n17_ n18_ n19_ n20_ n21_ n22_ n23_ n24_ n25_
           have hHeld : w48.cell? ⟨al, 0, none⟩ = some (.slice bu ax.length bv) ∧ w48.cell? ⟨al, 1, none⟩ = some (.slice bs av.length bt) ∧ w48.cell? ⟨aj, 0, none⟩ = some (.slice (some ad393) ap.length aA) ∧ w48.cell? ⟨aj, 1, none⟩ = some (.slice (some ad403) au.length aB) ∧ w48.cell? (ad393.add (((ay)).toNat * 2)) = some (.string ((rd_T27 ap (ay)).f0)) ∧ w48.cell? ⟨(ad393.add (((ay)).toNat * 2)).block, (ad393.add (((ay)).toNat * 2)).off + 1, none⟩ = some (.string ((rd_T27 ap (ay)).f1)) ∧ w48.cell? (ad403.add ((ay)).toNat) = some (.string (rdOf ByteArray.empty au (ay))) := hS_
           obtain ⟨aU, aV, cW⟩ := Kd.V_slice be.out
           (first | subst cW | (injection cW with f1_ f2_ f3_; have f4_ := f1_.symm; have f5_ := f3_.symm; clear f1_ f2_ f3_; subst f4_; subst f5_))
           obtain ⟨a5, a6, cX⟩ := Kd.V_slice bf.out
           (first | subst cX | (injection cX with f1_ f2_ f3_; have f4_ := f1_.symm; have f5_ := f3_.symm; clear f1_ f2_ f3_; subst f4_; subst f5_))
           refine norm_ (a' := ?_) ?_ ?_
           rotate_left
           ·simp only [putAll, Act.put, List.setIfInBounds_toArray, List.set_cons_zero, List.set_cons_succ]
            rfl
           refine one_ (i := 16) (N := none) #[true, true, true, true, true, true, true, true, true, true, true, true, true, true, true, true, true, false] rfl rfl (one_of HT_.out (by kernel_rfl)) (by decide) (fun K hK => ?_)
           have fn : w48.cell? ⟨ai, 0, none⟩ = some (.slice none 0 0) := (blk_cell az.out 0).trans rfl
           have e8 := blk_frozen az.out 0
           have dI := aM.out
           have dJ := a4.out
           have dK := aF.out
           have dL := a_.out
           have dM := bh.out
           have dN := aN.out
           have dP := aO.out
           have dQ := bi.out
           have fo : w48.cell? ⟨ai, 1, none⟩ = some (.slice none 0 0) := (blk_cell az.out 1).trans rfl
           have e9 := blk_frozen az.out 1
           have dR := aM.out
           have dS := a4.out
           have dT := aF.out
           have dU := a_.out
           have dV := bh.out
           have dW := aN.out
           have dX := aO.out
           have dY := bi.out
           refine skip_ (w1 := ?_) (by rfl) rfl ?_ ?_
           rotate_left
           ·go_simp
            rfl
           refine hK.out _ _ ⟨((cell_far (p := ⟨ai, _, none⟩) aF.out _).trans (((cell_far (p := ⟨ai, _, none⟩) aF.out _).trans (hHeld.1)))), ((cell_far (p := ⟨ai, _, none⟩) aF.out _).trans (((cell_far (p := ⟨ai, _, none⟩) aF.out _).trans (hHeld.2.1)))), ((cell_far (p := ⟨ai, _, none⟩) aM.out _).trans (((cell_far (p := ⟨ai, _, none⟩) aM.out _).trans (hHeld.2.2.1)))), ((cell_far (p := ⟨ai, _, none⟩) aM.out _).trans (((cell_far (p := ⟨ai, _, none⟩) aM.out _).trans (hHeld.2.2.2.1)))), ((cell_far (p := ⟨ai, _, none⟩) (by first | exact Kd.own_blk (Kd.R_ne aa.out az.out (by decide)) | (rw [add_block]; exact Kd.own_blk (Kd.R_ne aa.out az.out (by decide))) | (show (Addr.add _ _).block ≠ _; rw [add_block]; exact Kd.own_blk (Kd.R_ne aa.out az.out (by decide))) | (dsimp only; exact Kd.own_blk (Kd.R_ne aa.out az.out (by decide)))) _).trans (((cell_far (p := ⟨ai, _, none⟩) (by first | exact Kd.own_blk (Kd.R_ne aa.out az.out (by decide)) | (rw [add_block]; exact Kd.own_blk (Kd.R_ne aa.out az.out (by decide))) | (show (Addr.add _ _).block ≠ _; rw [add_block]; exact Kd.own_blk (Kd.R_ne aa.out az.out (by decide))) | (dsimp only; exact Kd.own_blk (Kd.R_ne aa.out az.out (by decide)))) _).trans (hHeld.2.2.2.2.1)))), ((cell_far (p := ⟨ai, _, none⟩) (by first | exact Kd.own_blk (Kd.R_ne aa.out az.out (by decide)) | (rw [add_block]; exact Kd.own_blk (Kd.R_ne aa.out az.out (by decide))) | (show (Addr.add _ _).block ≠ _; rw [add_block]; exact Kd.own_blk (Kd.R_ne aa.out az.out (by decide))) | (dsimp only; exact Kd.own_blk (Kd.R_ne aa.out az.out (by decide)))) _).trans (((cell_far (p := ⟨ai, _, none⟩) (by first | exact Kd.own_blk (Kd.R_ne aa.out az.out (by decide)) | (rw [add_block]; exact Kd.own_blk (Kd.R_ne aa.out az.out (by decide))) | (show (Addr.add _ _).block ≠ _; rw [add_block]; exact Kd.own_blk (Kd.R_ne aa.out az.out (by decide))) | (dsimp only; exact Kd.own_blk (Kd.R_ne aa.out az.out (by decide)))) _).trans (hHeld.2.2.2.2.2.1)))), ((cell_far (p := ⟨ai, _, none⟩) (by first | exact Kd.own_blk (Kd.R_ne ab.out az.out (by decide)) | (rw [add_block]; exact Kd.own_blk (Kd.R_ne ab.out az.out (by decide))) | (show (Addr.add _ _).block ≠ _; rw [add_block]; exact Kd.own_blk (Kd.R_ne ab.out az.out (by decide))) | (dsimp only; exact Kd.own_blk (Kd.R_ne ab.out az.out (by decide)))) _).trans (((cell_far (p := ⟨ai, _, none⟩) (by first | exact Kd.own_blk (Kd.R_ne ab.out az.out (by decide)) | (rw [add_block]; exact Kd.own_blk (Kd.R_ne ab.out az.out (by decide))) | (show (Addr.add _ _).block ≠ _; rw [add_block]; exact Kd.own_blk (Kd.R_ne ab.out az.out (by decide))) | (dsimp only; exact Kd.own_blk (Kd.R_ne ab.out az.out (by decide)))) _).trans (hHeld.2.2.2.2.2.2))))⟩ (fun hHeld => ?_)
           clear hK K
           refine pure_ (i := 17) (N := some 13) (v := ?_) (a' := ?_) #[true, true, true, true, true, true, true, true, true, true, true, true, true, true, true, true, true, true] rfl rfl (any_of HT_.out (by kernel_rfl)) (fun _ _ _ h => h) (Or.inl ⟨by rfl, ?_⟩) ?_ ?_
           rotate_left
           ·intro w'
            go_simp
            with_reducible rfl
           rotate_left
           ·simp only [pS]
            rfl
           refine done_ (done_of HT_.out (by kernel_rfl)) ?_
           try go_wp2
           have n0_ : Aside0 (Kd.R k27 27 ((w48.setCell ⟨ai, 0, none⟩ (.slice aU aI.length aV)).setCell ⟨ai, 1, none⟩ (.slice a5 aP.length a6)) w.heap.size (fun _ => True) (.slice (some ad393) ap.length aA) ap) := ⟨by (with_reducible repeat (first | apply Kd.R_alloc | apply Kd.R_drewN | apply Kd.R_drew)); exact Kd.R_mono (Kd.R_far (p := ⟨ai, 1, none⟩) (Kd.R_far (p := ⟨ai, 0, none⟩) (Kd.R_types aa.out az.out (by decide)) (fun _ hk => hk.2) (.slice aU aI.length aV)) (fun _ hk => hk.2) (.slice a5 aP.length a6)) (fun _ hk => trivial)⟩
           have n1_ : Aside0 (Kd.R Kd.string 9 ((w48.setCell ⟨ai, 0, none⟩ (.slice aU aI.length aV)).setCell ⟨ai, 1, none⟩ (.slice a5 aP.length a6)) w.heap.size (fun _ => True) (.slice (some ad403) au.length aB) au) := ⟨by (with_reducible repeat (first | apply Kd.R_alloc | apply Kd.R_drewN | apply Kd.R_drew)); exact Kd.R_mono (Kd.R_far (p := ⟨ai, 1, none⟩) (Kd.R_far (p := ⟨ai, 0, none⟩) (Kd.R_types ab.out az.out (by decide)) (fun _ hk => hk.2) (.slice aU aI.length aV)) (fun _ hk => hk.2) (.slice a5 aP.length a6)) (fun _ hk => trivial)⟩
           have n2_ : Aside0 (Kd.V k27 27 ((w48.setCell ⟨ai, 0, none⟩ (.slice aU aI.length aV)).setCell ⟨ai, 1, none⟩ (.slice a5 aP.length a6)) w.heap.size (fun k_ => k_ ≠ aj ∧ k_ ≠ ak ∧ k_ ≠ al ∧ k_ ≠ ad ∧ k_ ≠ ai) (.slice bo ar.length bp) ar) := ⟨by (with_reducible repeat (first | apply Kd.V_alloc | apply Kd.V_drewN | apply Kd.V_drew)); exact Kd.V_mono (Kd.V_far (p := ⟨ai, 1, none⟩) (Kd.V_far (p := ⟨ai, 0, none⟩) (Kd.V_mono ag.out (fun k_ hk => (⟨hk, hk.2.2.2.2⟩ : _ ∧ k_ ≠ ai))) (fun _ hk => hk.2) (.slice aU aI.length aV)) (fun _ hk => hk.2) (.slice a5 aP.length a6)) (fun _ hk => ⟨hk.1.1, ⟨hk.1.2.1, ⟨hk.1.2.2.1, ⟨hk.1.2.2.2.1, hk.1.2.2.2.2⟩⟩⟩⟩)⟩
           have n3_ : Aside0 (Kd.V Kd.string 9 ((w48.setCell ⟨ai, 0, none⟩ (.slice aU aI.length aV)).setCell ⟨ai, 1, none⟩ (.slice a5 aP.length a6)) w.heap.size (fun k_ => k_ ≠ aj ∧ k_ ≠ ak ∧ k_ ≠ al ∧ k_ ≠ ad ∧ k_ ≠ ai) (.slice bj aq.length bk) aq) := ⟨by (with_reducible repeat (first | apply Kd.V_alloc | apply Kd.V_drewN | apply Kd.V_drew)); exact Kd.V_mono (Kd.V_far (p := ⟨ai, 1, none⟩) (Kd.V_far (p := ⟨ai, 0, none⟩) (Kd.V_mono ah.out (fun k_ hk => (⟨hk, hk.2.2.2.2⟩ : _ ∧ k_ ≠ ai))) (fun _ hk => hk.2) (.slice aU aI.length aV)) (fun _ hk => hk.2) (.slice a5 aP.length a6)) (fun _ hk => ⟨hk.1.1, ⟨hk.1.2.1, ⟨hk.1.2.2.1, ⟨hk.1.2.2.2.1, hk.1.2.2.2.2⟩⟩⟩⟩)⟩
           have n4_ : Aside0 (Kd.V k27 27 ((w48.setCell ⟨ai, 0, none⟩ (.slice aU aI.length aV)).setCell ⟨ai, 1, none⟩ (.slice a5 aP.length a6)) w.heap.size (fun k_ => some k_ ≠ (.slice (some ad393) ap.length aA : Value).ownBlock ∧ some k_ ≠ (.slice (some ad403) au.length aB : Value).ownBlock ∧ k_ ≠ aj ∧ k_ ≠ ak ∧ k_ ≠ al ∧ k_ ≠ ad ∧ k_ ≠ ai) (.slice bu ax.length bv) ax) := ⟨by (with_reducible repeat (first | apply Kd.V_alloc | apply Kd.V_drewN | apply Kd.V_drew)); exact Kd.V_mono (Kd.V_far (p := ⟨ai, 1, none⟩) (Kd.V_far (p := ⟨ai, 0, none⟩) (Kd.V_mono ae.out (fun k_ hk => (⟨hk, hk.2.2.2.2.2.2⟩ : _ ∧ k_ ≠ ai))) (fun _ hk => hk.2) (.slice aU aI.length aV)) (fun _ hk => hk.2) (.slice a5 aP.length a6)) (fun _ hk => ⟨hk.1.1, ⟨hk.1.2.1, ⟨hk.1.2.2.1, ⟨hk.1.2.2.2.1, ⟨hk.1.2.2.2.2.1, ⟨hk.1.2.2.2.2.2.1, hk.1.2.2.2.2.2.2⟩⟩⟩⟩⟩⟩)⟩
           have n5_ : Aside0 (Kd.V Kd.string 9 ((w48.setCell ⟨ai, 0, none⟩ (.slice aU aI.length aV)).setCell ⟨ai, 1, none⟩ (.slice a5 aP.length a6)) w.heap.size (fun k_ => some k_ ≠ (.slice (some ad393) ap.length aA : Value).ownBlock ∧ some k_ ≠ (.slice (some ad403) au.length aB : Value).ownBlock ∧ k_ ≠ aj ∧ k_ ≠ ak ∧ k_ ≠ al ∧ k_ ≠ ad ∧ k_ ≠ ai) (.slice bs av.length bt) av) := ⟨by (with_reducible repeat (first | apply Kd.V_alloc | apply Kd.V_drewN | apply Kd.V_drew)); exact Kd.V_mono (Kd.V_far (p := ⟨ai, 1, none⟩) (Kd.V_far (p := ⟨ai, 0, none⟩) (Kd.V_mono af.out (fun k_ hk => (⟨hk, hk.2.2.2.2.2.2⟩ : _ ∧ k_ ≠ ai))) (fun _ hk => hk.2) (.slice aU aI.length aV)) (fun _ hk => hk.2) (.slice a5 aP.length a6)) (fun _ hk => ⟨hk.1.1, ⟨hk.1.2.1, ⟨hk.1.2.2.1, ⟨hk.1.2.2.2.1, ⟨hk.1.2.2.2.2.1, ⟨hk.1.2.2.2.2.2.1, hk.1.2.2.2.2.2.2⟩⟩⟩⟩⟩⟩)⟩
           have n6_ : Aside0 (Kd.V k27 27 ((w48.setCell ⟨ai, 0, none⟩ (.slice aU aI.length aV)).setCell ⟨ai, 1, none⟩ (.slice a5 aP.length a6)) w.heap.size (fun k_ => k_ ≠ aj ∧ k_ ≠ ak ∧ k_ ≠ al ∧ k_ ≠ ad ∧ k_ ≠ ai) (.slice aQ aG.length aR) aG) := ⟨by (with_reducible repeat (first | apply Kd.V_alloc | apply Kd.V_drewN | apply Kd.V_drew)); exact Kd.V_mono (Kd.V_far (p := ⟨ai, 1, none⟩) (Kd.V_far (p := ⟨ai, 0, none⟩) (Kd.V_mono aC.out (fun k_ hk => (⟨hk, hk.2.2.2.2⟩ : _ ∧ k_ ≠ ai))) (fun _ hk => hk.2) (.slice aU aI.length aV)) (fun _ hk => hk.2) (.slice a5 aP.length a6)) (fun _ hk => ⟨hk.1.1, ⟨hk.1.2.1, ⟨hk.1.2.2.1, ⟨hk.1.2.2.2.1, hk.1.2.2.2.2⟩⟩⟩⟩)⟩
           have n7_ : Aside0 (Kd.V Kd.string 9 ((w48.setCell ⟨ai, 0, none⟩ (.slice aU aI.length aV)).setCell ⟨ai, 1, none⟩ (.slice a5 aP.length a6)) w.heap.size (fun k_ => k_ ≠ aj ∧ k_ ≠ ak ∧ k_ ≠ al ∧ k_ ≠ ad ∧ k_ ≠ ai) (.slice aW aH.length aX) aH) := ⟨by (with_reducible repeat (first | apply Kd.V_alloc | apply Kd.V_drewN | apply Kd.V_drew)); exact Kd.V_mono (Kd.V_far (p := ⟨ai, 1, none⟩) (Kd.V_far (p := ⟨ai, 0, none⟩) (Kd.V_mono aD.out (fun k_ hk => (⟨hk, hk.2.2.2.2⟩ : _ ∧ k_ ≠ ai))) (fun _ hk => hk.2) (.slice aU aI.length aV)) (fun _ hk => hk.2) (.slice a5 aP.length a6)) (fun _ hk => ⟨hk.1.1, ⟨hk.1.2.1, ⟨hk.1.2.2.1, ⟨hk.1.2.2.2.1, hk.1.2.2.2.2⟩⟩⟩⟩)⟩
           have n8_ : Aside0 (Kd.V k27 27 ((w48.setCell ⟨ai, 0, none⟩ (.slice aU aI.length aV)).setCell ⟨ai, 1, none⟩ (.slice a5 aP.length a6)) w.heap.size (fun k_ => some k_ ≠ (.slice (some ad393) ap.length aA : Value).ownBlock ∧ some k_ ≠ (.slice (some ad403) au.length aB : Value).ownBlock ∧ k_ ≠ aj ∧ k_ ≠ ak ∧ k_ ≠ al ∧ k_ ≠ ad ∧ k_ ≠ ai) (.slice aU aI.length aV) aI) := ⟨by (with_reducible repeat (first | apply Kd.V_alloc | apply Kd.V_drewN | apply Kd.V_drew)); exact Kd.V_mono (Kd.V_far (p := ⟨ai, 1, none⟩) (Kd.V_far (p := ⟨ai, 0, none⟩) (Kd.V_mono be.out (fun k_ hk => (⟨hk, hk.2.2.2.2.2.2⟩ : _ ∧ k_ ≠ ai))) (fun _ hk => hk.2) (.slice aU aI.length aV)) (fun _ hk => hk.2) (.slice a5 aP.length a6)) (fun _ hk => ⟨hk.1.1, ⟨hk.1.2.1, ⟨hk.1.2.2.1, ⟨hk.1.2.2.2.1, ⟨hk.1.2.2.2.2.1, ⟨hk.1.2.2.2.2.2.1, hk.1.2.2.2.2.2.2⟩⟩⟩⟩⟩⟩)⟩
           have n9_ : Aside0 (Kd.V Kd.string 9 ((w48.setCell ⟨ai, 0, none⟩ (.slice aU aI.length aV)).setCell ⟨ai, 1, none⟩ (.slice a5 aP.length a6)) w.heap.size (fun k_ => some k_ ≠ (.slice (some ad393) ap.length aA : Value).ownBlock ∧ some k_ ≠ (.slice (some ad403) au.length aB : Value).ownBlock ∧ k_ ≠ aj ∧ k_ ≠ ak ∧ k_ ≠ al ∧ k_ ≠ ad ∧ k_ ≠ ai) (.slice a5 aP.length a6) aP) := ⟨by (with_reducible repeat (first | apply Kd.V_alloc | apply Kd.V_drewN | apply Kd.V_drew)); exact Kd.V_mono (Kd.V_far (p := ⟨ai, 1, none⟩) (Kd.V_far (p := ⟨ai, 0, none⟩) (Kd.V_mono bf.out (fun k_ hk => (⟨hk, hk.2.2.2.2.2.2⟩ : _ ∧ k_ ≠ ai))) (fun _ hk => hk.2) (.slice aU aI.length aV)) (fun _ hk => hk.2) (.slice a5 aP.length a6)) (fun _ hk => ⟨hk.1.1, ⟨hk.1.2.1, ⟨hk.1.2.2.1, ⟨hk.1.2.2.2.1, ⟨hk.1.2.2.2.2.1, ⟨hk.1.2.2.2.2.2.1, hk.1.2.2.2.2.2.2⟩⟩⟩⟩⟩⟩)⟩
           have n10_ : Aside0 (((w48.setCell ⟨ai, 0, none⟩ (.slice aU aI.length aV)).setCell ⟨ai, 1, none⟩ (.slice a5 aP.length a6)).heap[aj]? = some (.cells #[.slice (some ad393) ap.length aA, .slice (some ad403) au.length aB] 25 (0, 0))) := ⟨by (with_reducible repeat (first | apply bn | apply bd | apply ba)); refine blk_far ?_ aM.out _; (with_reducible repeat (first | apply bn | apply bd | apply ba)); refine blk_far ?_ aM.out _; exact bT ac.out⟩
           have n11_ : Aside0 (((w48.setCell ⟨ai, 0, none⟩ (.slice aU aI.length aV)).setCell ⟨ai, 1, none⟩ (.slice a5 aP.length a6)).heap[ak]? = some (.cells #[.slice bo ar.length bp, .slice bj aq.length bk] 25 (0, 0))) := ⟨by (with_reducible repeat (first | apply bn | apply bd | apply ba)); refine blk_far ?_ a4.out _; (with_reducible repeat (first | apply bn | apply bd | apply ba)); refine blk_far ?_ a4.out _; exact bT an.out⟩
           have n12_ : Aside0 (((w48.setCell ⟨ai, 0, none⟩ (.slice aU aI.length aV)).setCell ⟨ai, 1, none⟩ (.slice a5 aP.length a6)).heap[al]? = some (.cells #[.slice bu ax.length bv, .slice bs av.length bt] 25 (0, 0))) := ⟨by (with_reducible repeat (first | apply bn | apply bd | apply ba)); refine blk_far ?_ aF.out _; (with_reducible repeat (first | apply bn | apply bd | apply ba)); refine blk_far ?_ aF.out _; exact bT ao.out⟩
           have n13_ : Aside0 (((w48.setCell ⟨ai, 0, none⟩ (.slice aU aI.length aV)).setCell ⟨ai, 1, none⟩ (.slice a5 aP.length a6)).heap[ad]? = some (.cells #[.slice aQ aG.length aR, .slice aW aH.length aX] 25 (0, 0))) := ⟨by (with_reducible repeat (first | apply bn | apply bd | apply ba)); refine blk_far ?_ a_.out _; (with_reducible repeat (first | apply bn | apply bd | apply ba)); refine blk_far ?_ a_.out _; exact bT aw.out⟩
           have n14_ : Aside0 (((w48.setCell ⟨ai, 0, none⟩ (.slice aU aI.length aV)).setCell ⟨ai, 1, none⟩ (.slice a5 aP.length a6)).heap[ai]? = some (.cells #[.slice aU aI.length aV, .slice a5 aP.length a6] 25 (0, 0))) := ⟨by (with_reducible repeat (first | apply bn | apply bd | apply ba)); refine blk_put (cs := #[.slice aU aI.length aV, .slice none 0 0]) ?_ 1 _ rfl; (with_reducible repeat (first | apply bn | apply bd | apply ba)); refine blk_put (cs := #[.slice none 0 0, .slice none 0 0]) ?_ 0 _ rfl; exact bT az.out⟩
           have n15_ : Aside0 (Below w.heap.size w ((w48.setCell ⟨ai, 0, none⟩ (.slice aU aI.length aV)).setCell ⟨ai, 1, none⟩ (.slice a5 aP.length a6))) := ⟨by repeat (first | (with_reducible first | exact HB.out | apply pA | apply pN | apply pD | refine eU ?_ (by assumption)) | exact HB.out)⟩
           (try clear aa)
           (try clear ab)
           (try clear ag)
           (try clear ah)
           (try clear ae)
           (try clear af)
           (try clear aC)
           (try clear aD)
           (try clear be)
           (try clear bf)
           (try clear ac)
           (try clear an)
           (try clear ao)
           (try clear aw)
           (try clear az)
           (try clear HB)
           generalize ((w48.setCell ⟨ai, 0, none⟩ (.slice aU aI.length aV)).setCell ⟨ai, 1, none⟩ (.slice a5 aP.length a6)) = w53 at n0_ n1_ n2_ n3_ n4_ n5_ n6_ n7_ n8_ n9_ n10_ n11_ n12_ n13_ n14_ n15_ ⊢
           have aa := n0_
           have ab := n1_
           have ag := n2_
           have ah := n3_
           have ae := n4_
           have af := n5_
           have aC := n6_
           have aD := n7_
           have be := n8_
           have bf := n9_
           have ac := n10_
           have an := n11_
           have ao := n12_
           have aw := n13_
           have az := n14_
           have HB := n15_
           clear n0_ n1_ n2_ n3_ n4_ n5_ n6_ n7_ n8_ n9_ n10_ n11_ n12_ n13_ n14_ n15_
           have n0_ := am (Kd.R_drew aa.out)
           have n1_ := am (Kd.R_drew ab.out)
           have n2_ := am (Kd.V_drew ag.out)
           have n3_ := am (Kd.V_drew ah.out)
           have n4_ := am (Kd.V_drew ae.out)
           have n5_ := am (Kd.V_drew af.out)
           have n6_ := am (Kd.V_drew aC.out)
           have n7_ := am (Kd.V_drew aD.out)
           have n8_ := am (Kd.V_drew be.out)
           have n9_ := am (Kd.V_drew bf.out)
           have n10_ := am (blk_drew ac.out)
           have n11_ := am (blk_drew an.out)
           have n12_ := am (blk_drew ao.out)
           have n13_ := am (blk_drew aw.out)
           have n14_ := am (blk_drew az.out)
           have n15_ := am (below_drew1 HB.out)
           clear aa ab ag ah ae af aC aD be bf ac an ao aw az HB
           have aa := n0_
           have ab := n1_
           have ag := n2_
           have ah := n3_
           have ae := n4_
           have af := n5_
           have aC := n6_
           have aD := n7_
           have be := n8_
           have bf := n9_
           have ac := n10_
           have an := n11_
           have ao := n12_
           have aw := n13_
           have az := n14_
           have HB := n15_
           clear n0_ n1_ n2_ n3_ n4_ n5_ n6_ n7_ n8_ n9_ n10_ n11_ n12_ n13_ n14_ n15_
           refine start_ (n := 4) (S := fun w' => w'.cell? ⟨ad, 0, none⟩ = some (.slice aQ aG.length aR) ∧ w'.cell? ⟨ad, 1, none⟩ = some (.slice aW aH.length aX) ∧ w'.cell? ⟨ai, 0, none⟩ = some (.slice aU aI.length aV) ∧ w'.cell? ⟨ai, 1, none⟩ = some (.slice a5 aP.length a6)) (ds := []) #[false, false, false, false] (by kernel_rfl) rfl rfl ⟨(blk_cell aw.out 0).trans rfl, (blk_cell aw.out 1).trans rfl, (blk_cell az.out 0).trans rfl, (blk_cell az.out 1).trans rfl⟩ (fun hHeld => ?_)
           generalize w53.drew = w54 at aa ab ag ah ae af aC aD be bf ac an ao aw az HB hHeld ⊢
           refine take_ (i := 0) (N := some 71) (v := ?_) (a' := ?_) #[true, false, false, false] rfl rfl (by kernel_rfl) (fun _ _ _ h => h) (Or.inl ⟨by rfl, ?_⟩) hHeld ?_ ?_
           rotate_left
           ·rintro w' ⟨s0, s1, s2, s3⟩
            go_simp
            with_reducible rfl
           rotate_left
           ·simp only [pS]
            rfl
           refine take_ (i := 1) (N := some 72) (v := ?_) (a' := ?_) #[true, true, false, false] rfl rfl (by kernel_rfl) (fun _ _ _ h => h) (Or.inl ⟨by rfl, ?_⟩) hHeld ?_ ?_
           rotate_left
           ·rintro w' ⟨s0, s1, s2, s3⟩
            go_simp
            with_reducible rfl
           rotate_left
           ·simp only [pS]
            rfl
           refine one_ (i := 2) (N := none) #[true, true, true, false] rfl rfl (by kernel_rfl) (by decide) (fun K hK => ?_)
           have fp : w54.cell? ⟨ak, 0, none⟩ = some (.slice bo ar.length bp) := (blk_cell an.out 0).trans rfl
           have e_ := blk_frozen an.out 0
           have dZ := a8.out
           have d0 := aZ.out
           have d1 := aK.out
           have d2 := aN.out
           have d3 := bq.out
           have d4 := aY.out
           have d5 := aE.out
           have d6 := a4.out
           have fq : w54.cell? ⟨ak, 1, none⟩ = some (.slice bj aq.length bk) := (blk_cell an.out 1).trans rfl
           have fa := blk_frozen an.out 1
           have d7 := a8.out
           have d8 := aZ.out
           have d9 := aK.out
           have d_ := aN.out
           have ea := bq.out
           have eb := aY.out
           have ec := aE.out
           have ed := a4.out
           refine skip_ (w1 := ?_) (by rfl) rfl ?_ ?_
           rotate_left
           ·go_simp
            rfl
           refine hK.out _ _ ⟨((cell_far (p := ⟨ak, _, none⟩) aK.out _).trans (((cell_far (p := ⟨ak, _, none⟩) aK.out _).trans (hHeld.1)))), ((cell_far (p := ⟨ak, _, none⟩) aK.out _).trans (((cell_far (p := ⟨ak, _, none⟩) aK.out _).trans (hHeld.2.1)))), ((cell_far (p := ⟨ak, _, none⟩) aN.out _).trans (((cell_far (p := ⟨ak, _, none⟩) aN.out _).trans (hHeld.2.2.1)))), ((cell_far (p := ⟨ak, _, none⟩) aN.out _).trans (((cell_far (p := ⟨ak, _, none⟩) aN.out _).trans (hHeld.2.2.2))))⟩ (fun hHeld => ?_)
           clear hK K
           refine one_ (i := 3) (N := none) #[true, true, true, true] rfl rfl (by kernel_rfl) (by decide) (fun K hK => ?_)
           have fr : w54.cell? ⟨al, 0, none⟩ = some (.slice bu ax.length bv) := (blk_cell ao.out 0).trans rfl
           have fb := blk_frozen ao.out 0
           have ee := a9.out
           have ef := aY.out
           have eg := aL.out
           have eh := aO.out
           have ei := br.out
           have ej := aZ.out
           have ek := a3.out
           have el := aF.out
           have fs : w54.cell? ⟨al, 1, none⟩ = some (.slice bs av.length bt) := (blk_cell ao.out 1).trans rfl
           have fc := blk_frozen ao.out 1
           have em := a9.out
           have en := aY.out
           have eo := aL.out
           have ep := aO.out
           have eq := br.out
           have er := aZ.out
           have es := a3.out
           have et := aF.out
           refine skip_ (w1 := ?_) (by rfl) rfl ?_ ?_
           rotate_left
           ·go_simp
            rfl
           refine hK.out _ _ ⟨((cell_far (p := ⟨al, _, none⟩) aL.out _).trans (((cell_far (p := ⟨al, _, none⟩) aL.out _).trans (hHeld.1)))), ((cell_far (p := ⟨al, _, none⟩) aL.out _).trans (((cell_far (p := ⟨al, _, none⟩) aL.out _).trans (hHeld.2.1)))), ((cell_far (p := ⟨al, _, none⟩) aO.out _).trans (((cell_far (p := ⟨al, _, none⟩) aO.out _).trans (hHeld.2.2.1)))), ((cell_far (p := ⟨al, _, none⟩) aO.out _).trans (((cell_far (p := ⟨al, _, none⟩) aO.out _).trans (hHeld.2.2.2))))⟩ (fun hHeld => ?_)
           clear hK K
           refine done_ (by kernel_rfl) ?_
           try go_wp2
           go_roundg k1
           case measure => have := HK1.out; omega
           case rel => exact ⟨(wrap64 (bG + 1)), (aG), (aH), (aI), (aP), (.slice aQ aG.length aR), (.slice aW aH.length aX), (.slice aU aI.length aV), (.slice a5 aP.length a6), (by first | rfl | (simp; done) | (simp [*]; done)), H', ⟨by have := HK1.out; omega⟩, ⟨by (with_reducible repeat (first | apply Kd.R_alloc | apply Kd.R_drewN | apply Kd.R_drew)); exact Kd.R_mono (Kd.R_far (p := ⟨al, 1, none⟩) (Kd.R_far (p := ⟨al, 0, none⟩) (Kd.R_far (p := ⟨ak, 1, none⟩) (Kd.R_far (p := ⟨ak, 0, none⟩) (Kd.R_types (Kd.R_types aa.out an.out (by decide)) ao.out (by decide)) (fun _ hk => hk.1.2) (.slice aQ aG.length aR)) (fun _ hk => hk.1.2) (.slice aW aH.length aX)) (fun _ hk => hk.2) (.slice aU aI.length aV)) (fun _ hk => hk.2) (.slice a5 aP.length a6)) (fun _ hk => trivial)⟩, ⟨by (with_reducible repeat (first | apply Kd.R_alloc | apply Kd.R_drewN | apply Kd.R_drew)); exact Kd.R_mono (Kd.R_far (p := ⟨al, 1, none⟩) (Kd.R_far (p := ⟨al, 0, none⟩) (Kd.R_far (p := ⟨ak, 1, none⟩) (Kd.R_far (p := ⟨ak, 0, none⟩) (Kd.R_types (Kd.R_types ab.out an.out (by decide)) ao.out (by decide)) (fun _ hk => hk.1.2) (.slice aQ aG.length aR)) (fun _ hk => hk.1.2) (.slice aW aH.length aX)) (fun _ hk => hk.2) (.slice aU aI.length aV)) (fun _ hk => hk.2) (.slice a5 aP.length a6)) (fun _ hk => trivial)⟩, ⟨by (with_reducible repeat (first | apply Kd.V_alloc | apply Kd.V_drewN | apply Kd.V_drew)); exact Kd.V_mono (Kd.V_far (p := ⟨al, 1, none⟩) (Kd.V_far (p := ⟨al, 0, none⟩) (Kd.V_far (p := ⟨ak, 1, none⟩) (Kd.V_far (p := ⟨ak, 0, none⟩) (Kd.V_mono (Kd.V_mono aC.out (fun k_ hk => (⟨hk, hk.2.1⟩ : _ ∧ k_ ≠ ak))) (fun k_ hk => (⟨hk, hk.1.2.2.1⟩ : _ ∧ k_ ≠ al))) (fun _ hk => hk.1.2) (.slice aQ aG.length aR)) (fun _ hk => hk.1.2) (.slice aW aH.length aX)) (fun _ hk => hk.2) (.slice aU aI.length aV)) (fun _ hk => hk.2) (.slice a5 aP.length a6)) (fun _ hk => ⟨hk.1.1.1, ⟨hk.1.1.2.1, hk.1.1.2.2.1⟩⟩)⟩, ⟨by (with_reducible repeat (first | apply Kd.V_alloc | apply Kd.V_drewN | apply Kd.V_drew)); exact Kd.V_mono (Kd.V_far (p := ⟨al, 1, none⟩) (Kd.V_far (p := ⟨al, 0, none⟩) (Kd.V_far (p := ⟨ak, 1, none⟩) (Kd.V_far (p := ⟨ak, 0, none⟩) (Kd.V_mono (Kd.V_mono aD.out (fun k_ hk => (⟨hk, hk.2.1⟩ : _ ∧ k_ ≠ ak))) (fun k_ hk => (⟨hk, hk.1.2.2.1⟩ : _ ∧ k_ ≠ al))) (fun _ hk => hk.1.2) (.slice aQ aG.length aR)) (fun _ hk => hk.1.2) (.slice aW aH.length aX)) (fun _ hk => hk.2) (.slice aU aI.length aV)) (fun _ hk => hk.2) (.slice a5 aP.length a6)) (fun _ hk => ⟨hk.1.1.1, ⟨hk.1.1.2.1, hk.1.1.2.2.1⟩⟩)⟩, ⟨by (with_reducible repeat (first | apply Kd.V_alloc | apply Kd.V_drewN | apply Kd.V_drew)); exact Kd.V_mono (Kd.V_far (p := ⟨al, 1, none⟩) (Kd.V_far (p := ⟨al, 0, none⟩) (Kd.V_far (p := ⟨ak, 1, none⟩) (Kd.V_far (p := ⟨ak, 0, none⟩) (Kd.V_mono (Kd.V_mono be.out (fun k_ hk => (⟨hk, hk.2.2.2.1⟩ : _ ∧ k_ ≠ ak))) (fun k_ hk => (⟨hk, hk.1.2.2.2.2.1⟩ : _ ∧ k_ ≠ al))) (fun _ hk => hk.1.2) (.slice aQ aG.length aR)) (fun _ hk => hk.1.2) (.slice aW aH.length aX)) (fun _ hk => hk.2) (.slice aU aI.length aV)) (fun _ hk => hk.2) (.slice a5 aP.length a6)) (fun _ hk => ⟨hk.1.1.1, ⟨hk.1.1.2.1, ⟨hk.1.1.2.2.1, ⟨hk.1.1.2.2.2.1, hk.1.1.2.2.2.2.1⟩⟩⟩⟩)⟩, ⟨by (with_reducible repeat (first | apply Kd.V_alloc | apply Kd.V_drewN | apply Kd.V_drew)); exact Kd.V_mono (Kd.V_far (p := ⟨al, 1, none⟩) (Kd.V_far (p := ⟨al, 0, none⟩) (Kd.V_far (p := ⟨ak, 1, none⟩) (Kd.V_far (p := ⟨ak, 0, none⟩) (Kd.V_mono (Kd.V_mono bf.out (fun k_ hk => (⟨hk, hk.2.2.2.1⟩ : _ ∧ k_ ≠ ak))) (fun k_ hk => (⟨hk, hk.1.2.2.2.2.1⟩ : _ ∧ k_ ≠ al))) (fun _ hk => hk.1.2) (.slice aQ aG.length aR)) (fun _ hk => hk.1.2) (.slice aW aH.length aX)) (fun _ hk => hk.2) (.slice aU aI.length aV)) (fun _ hk => hk.2) (.slice a5 aP.length a6)) (fun _ hk => ⟨hk.1.1.1, ⟨hk.1.1.2.1, ⟨hk.1.1.2.2.1, ⟨hk.1.1.2.2.2.1, hk.1.1.2.2.2.2.1⟩⟩⟩⟩)⟩, ⟨by (with_reducible repeat (first | apply bn | apply bd | apply ba)); refine blk_far ?_ a9.out _; (with_reducible repeat (first | apply bn | apply bd | apply ba)); refine blk_far ?_ a9.out _; (with_reducible repeat (first | apply bn | apply bd | apply ba)); refine blk_far ?_ a8.out _; (with_reducible repeat (first | apply bn | apply bd | apply ba)); refine blk_far ?_ a8.out _; exact bT ac.out⟩, ⟨by (with_reducible repeat (first | apply bn | apply bd | apply ba)); refine blk_far ?_ aY.out _; (with_reducible repeat (first | apply bn | apply bd | apply ba)); refine blk_far ?_ aY.out _; (with_reducible repeat (first | apply bn | apply bd | apply ba)); refine blk_put (cs := #[.slice aQ aG.length aR, .slice bj aq.length bk]) ?_ 1 _ rfl; (with_reducible repeat (first | apply bn | apply bd | apply ba)); refine blk_put (cs := #[.slice bo ar.length bp, .slice bj aq.length bk]) ?_ 0 _ rfl; exact bT an.out⟩, ⟨by (with_reducible repeat (first | apply bn | apply bd | apply ba)); refine blk_put (cs := #[.slice aU aI.length aV, .slice bs av.length bt]) ?_ 1 _ rfl; (with_reducible repeat (first | apply bn | apply bd | apply ba)); refine blk_put (cs := #[.slice bu ax.length bv, .slice bs av.length bt]) ?_ 0 _ rfl; (with_reducible repeat (first | apply bn | apply bd | apply ba)); refine blk_far ?_ aZ.out _; (with_reducible repeat (first | apply bn | apply bd | apply ba)); refine blk_far ?_ aZ.out _; exact bT ao.out⟩, ⟨by repeat (first | (with_reducible first | exact HB.out | apply pA | apply pN | apply pD | refine eU ?_ (by assumption)) | exact HB.out)⟩⟩
          ·rw [if_neg c31] at H
           have cS : (bH == 0) = false := beq_eq_false_iff_ne.mpr c31
           have cT : (bH != 0) = true := bne_iff_ne.mpr c31
           exact absurd ((Option.some.inj H).trans hR_) (by decide)
         ·rw [if_neg c30] at H
          have cQ : (bE == 0) = false := beq_eq_false_iff_ne.mpr c30
          have cR : (bE != 0) = true := bne_iff_ne.mpr c30
          exact absurd ((Option.some.inj H).trans hR_) (by decide)
        ·rw [if_neg c28] at H
         exact absurd H (by simp)
       ·rw [if_neg c26] at H
        exact absurd H (by simp)
      ·rw [if_neg c25] at H
       exact absurd H (by simp)
    ·rw [if_neg c22] at H
     have cN : decide (bG < ji6) = false := decide_eq_false c22
     clear c22
     by_cases bO : (ar.length : Int) = 0
     ·rw [if_pos bO] at H
      have cD : ((ar.length : Int) == 0) = true := beq_iff_eq.mpr bO
      have cE : ((ar.length : Int) != 0) = false := bne_eq_false_iff_eq.mpr bO
      clear bO
      by_cases bP : (aq.length : Int) = 0
      ·rw [if_pos bP] at H
       have cF : ((aq.length : Int) == 0) = true := beq_iff_eq.mpr bP
       have cG : ((aq.length : Int) != 0) = false := bne_eq_false_iff_eq.mpr bP
       clear bP
       replace H := Option.bind_eq_some_iff.mp H
       obtain ⟨b_, cw, H⟩ := H
       replace H : (if b_ = true then ((graftwoodlaw12_awake.f k1).bind fun bN => (some bN)) else (some false)) = some r := H
       have eC := Aside0.mk cw
       clear cw
       by_cases cq : b_ = true
       ·subst cq
        have H1 : ((graftwoodlaw12_awake.f k1).bind fun bN => (some bN)) = some r := by rw [if_pos rfl] at H; exact H
        clear H
        have H := H1
        clear H1
        replace H := Option.bind_eq_some_iff.mp H
        obtain ⟨bN, cx, H⟩ := H
        replace H : (some bN) = some r := H
        have eD := Aside0.mk cx
        clear cx
        obtain rfl := Option.some.inj H
        have eE := bq.out
        have eF := a8.out
        have eG := aY.out
        have eH := aZ.out
        have cY : wr.cell? ⟨ak, 0, none⟩ = some (u390000) := (blk_cell an.out 0).trans rfl
        have cZ : wr.cell? ⟨ak, 1, none⟩ = some (u390001) := (blk_cell an.out 1).trans rfl
        have c0 := blk_frozen an.out 0
        have c3 := blk_frozen an.out 1
        obtain ⟨fd, fe, c4⟩ := Kd.V_slice ag.out
        subst c4
        obtain ⟨ff, fg, c8⟩ := Kd.V_slice ah.out
        subst c8
        have eI := br.out
        have eJ := a9.out
        have c9 : wr.cell? ⟨al, 0, none⟩ = some (u391000) := (blk_cell ao.out 0).trans rfl
        have c_ : wr.cell? ⟨al, 1, none⟩ = some (u391001) := (blk_cell ao.out 1).trans rfl
        have da := blk_frozen ao.out 0
        have db := blk_frozen ao.out 1
        have dc : wr.cell? ⟨aj, 0, none⟩ = some (.slice bm ap.length aA) := (blk_cell ac.out 0).trans rfl
        have dd : wr.cell? ⟨aj, 1, none⟩ = some (.slice a7 au.length aB) := (blk_cell ac.out 1).trans rfl
        have de := blk_frozen ac.out 0
        have df := blk_frozen ac.out 1
        obtain ⟨fh, fi, dg⟩ := Kd.V_slice ae.out
        subst dg
        obtain ⟨fj, fk, dh⟩ := Kd.V_slice af.out
        subst dh
        go_wp2_with (first | (go_at_call 14; (with_reducible refine (store_Same.calls k1 _ _ ax _ _ av _ _ ap _ _ au true _ ?side1 ?side2 ?side3 ?side4 ?side5 ?side6 ?side7 ?side8 eC.out).mono ?_); (case side1 => repeat (first | exact (Kd.V_reads' ae.out).2.2 | (with_reducible refine Kd.C_alloc ?_ _) | (with_reducible refine Kd.C_drewN ?_ _) | (with_reducible refine Kd.C_drew ?_))); (case side2 => exact (Kd.V_reads' ae.out).2.1); (case side3 => repeat (first | exact (Kd.V_reads' af.out).2.2 | (with_reducible refine Kd.C_alloc ?_ _) | (with_reducible refine Kd.C_drewN ?_ _) | (with_reducible refine Kd.C_drew ?_))); (case side4 => exact (Kd.V_reads' af.out).2.1); (case side5 => repeat (first | exact (Kd.R_reads' aa.out).2.2 | (with_reducible refine Kd.C_alloc ?_ _) | (with_reducible refine Kd.C_drewN ?_ _) | (with_reducible refine Kd.C_drew ?_))); (case side6 => exact (Kd.R_reads' aa.out).2.1); (case side7 => repeat (first | exact (Kd.R_reads' ab.out).2.2 | (with_reducible refine Kd.C_alloc ?_ _) | (with_reducible refine Kd.C_drewN ?_ _) | (with_reducible refine Kd.C_drew ?_))); (case side8 => exact (Kd.R_reads' ab.out).2.1); rintro e ft ⟨rfl, hb⟩; replace aa := am (rB aa.out hb); replace ab := am (rB ab.out hb); replace ag := am (vB ag.out hb); replace ah := am (vB ah.out hb); replace ae := am (vB ae.out hb); replace af := am (vB af.out hb); replace ac := am (bB ac.out hb); replace an := am (bB an.out hb); replace ao := am (bB ao.out hb); replace HB := am (sT HB.out hb); (try clear hb); (try clear hb2); (try clear hk); (try clear hi)) | (go_at_call 10; (with_reducible refine (graftwoodlaw12_awake.calls k1  bN _ eD.out (by first | exact hR_ | assumption)).mono ?_); rintro e fu ⟨rfl, hb⟩; replace aa := am (rB aa.out hb); replace ab := am (rB ab.out hb); replace ag := am (vB ag.out hb); replace ah := am (vB ah.out hb); replace ae := am (vB ae.out hb); replace af := am (vB af.out hb); replace ac := am (bB ac.out hb); replace an := am (bB an.out hb); replace ao := am (bB ao.out hb); replace HB := am (sT HB.out hb); (try clear hb); (try clear hb2); (try clear hk); (try clear hi)))
        go_ret
        exact ⟨by first | rfl | (simp [errW_none, errW_some] <;> rfl) | (simp only [← bQ]; first | rfl | (simp [errW_none, errW_some] <;> rfl)) | (simp [*, errW_none, errW_some] <;> rfl), eT HB.out⟩
       ·replace cq := Bool.eq_false_iff.mpr cq
        subst cq
        have H1 : (some false) = some r := by rw [if_neg (show ¬ (false = true) by decide)] at H; exact H
        clear H
        have H := H1
        clear H1
        exact absurd ((Option.some.inj H).trans hR_) (by decide)
      ·rw [if_neg bP] at H
       have cF : ((aq.length : Int) == 0) = false := beq_eq_false_iff_ne.mpr bP
       have cG : ((aq.length : Int) != 0) = true := bne_iff_ne.mpr bP
       have eK : ¬ (aq = []) := fun h_ => bP (by rw [h_]; rfl)
       exact absurd ((Option.some.inj H).trans hR_) (by decide)
     ·rw [if_neg bO] at H
      have cD : ((ar.length : Int) == 0) = false := beq_eq_false_iff_ne.mpr bO
      have cE : ((ar.length : Int) != 0) = true := bne_iff_ne.mpr bO
      have eL : ¬ (ar = []) := fun h_ => bO (by rw [h_]; rfl)
      exact absurd ((Option.some.inj H).trans hR_) (by decide)
 ·rw [if_neg c5] at H
  have cH : (bw == 0) = false := beq_eq_false_iff_ne.mpr c5
  have cI : (bw != 0) = true := bne_iff_ne.mpr c5
  replace H := Option.bind_eq_some_iff.mp H
  obtain ⟨bK, cy, H⟩ := H
  replace H : (some bK) = some r := H
  have eM := Aside0.mk cy
  clear cy
  obtain rfl := Option.some.inj H
  go_enter Tryd.func6, Tryd.ntmps6
  go_wp2_with (first | ((with_reducible refine gate_dst (N := 2) rfl ?_); (try (refine gate_guard (by rfl) ?_; dsimp only)); refine box_event ?hg (N := 2) ?hd (cs := #[.slice bC l0_0.length bD, .slice bx l0_1.length bz]) (t := 25) ?hr ?_; (case hd => rfl); (case hg => rfl); (case hr => first | (go_simp; done) | (go_simp; rfl)); intro aj hg di hbox hb; have ac := am (hbox); have cL := am ((by rw [hg]; exact (below_size (by repeat (first | (with_reducible first | exact HB.out | apply pA | apply pN | apply pD) | exact HB.out))) : w.heap.size ≤ aj)); have cM := am ((by rw [hg]; exact (below_size (by repeat (first | (with_reducible first | exact HB.out | apply pA | apply pN | apply pD) | exact HB.out))) : w.heap.size ≤ aj)); replace HB := am (below_step (by repeat (first | (with_reducible first | exact HB.out | apply pA | apply pN | apply pD) | exact HB.out)) hb); clear hb hbox hg; have dj : di.cell? ⟨aj, 0, none⟩ = some (.slice bC l0_0.length bD) := (blk_cell ac.out 0).trans rfl; have dk : di.cell? ⟨aj, 1, none⟩ = some (.slice bx l0_1.length bz) := (blk_cell ac.out 1).trans rfl; have dl := blk_frozen ac.out 0; have dm := blk_frozen ac.out 1) | ((with_reducible refine gate_callee (f := 7) rfl ?_); refine goesL_ (some 15) rfl rfl Tryd.func7 (by kernel_rfl) rfl #[.agg #[.slice bC l0_0.length bD, .slice bx l0_1.length bz]] rfl (by (try simp only [List.map_toArray, List.map_cons, List.map_nil]); first | done | rfl | (simp only [List.length_drop, List.length_take]; rfl)) ?_; (with_reducible refine (graftwoodlaw12_Few.calls k _ _ l0_0 _ _ l0_1 ap au _ ?side1 ?side2 ?side3 ?side4 A3.out).mono ?_); (case side1 => repeat (first | exact (Kd.C_below cr.out HB.out) | (with_reducible refine Kd.C_alloc ?_ _) | (with_reducible refine Kd.C_drewN ?_ _) | (with_reducible refine Kd.C_drew ?_))); (case side2 => exact ct.out); (case side3 => repeat (first | exact (Kd.C_below cu.out HB.out) | (with_reducible refine Kd.C_alloc ?_ _) | (with_reducible refine Kd.C_drewN ?_ _) | (with_reducible refine Kd.C_drew ?_))); (case side4 => exact cv.out); rintro e dn ⟨eu, ev, rfl, ho0, ho1, hb⟩; refine ⟨_, rfl, ?_⟩; have bb := am (Kd.R_lower ho0 (below_size (by repeat (first | (with_reducible first | exact HB.out | apply pA | apply pN | apply pD | refine eU ?_ (by assumption)) | exact HB.out)))); have bc := am (Kd.R_lower ho1 (below_size (by repeat (first | (with_reducible first | exact HB.out | apply pA | apply pN | apply pD | refine eU ?_ (by assumption)) | exact HB.out)))); replace ac := am (bB ac.out hb); replace HB := am (below_step (by repeat (first | (with_reducible first | exact HB.out | apply pA | apply pN | apply pD | refine eU ?_ (by assumption)) | exact HB.out)) hb); (try clear hb); (try clear hb2); (try clear hk); (try clear hi); (try clear ho0); (try clear ho1); obtain ⟨bI, bA, dp⟩ := Kd.R_slice bb.out; subst dp; have dq : dn.cell? ⟨aj, 0, none⟩ = some (.slice bC l0_0.length bD) := (blk_cell ac.out 0).trans rfl; have dr : dn.cell? ⟨aj, 1, none⟩ = some (.slice bx l0_1.length bz) := (blk_cell ac.out 1).trans rfl; have dt := blk_frozen ac.out 0; have du := blk_frozen ac.out 1; obtain ⟨bM, bJ, dv⟩ := Kd.R_slice bc.out; subst dv) | ((with_reducible refine gate_callee (f := 13) rfl ?_); refine goesL_ (some 17) rfl rfl Tryd.func13 (by kernel_rfl) rfl #[.agg #[.slice bI ap.length bA, .slice bM au.length bJ]] rfl (by (try simp only [List.map_toArray, List.map_cons, List.map_nil]); first | done | rfl | (simp only [List.length_drop, List.length_take]; rfl)) ?_; (with_reducible refine (store_Check.calls k _ _ ap _ _ au bw _ ?side1 ?side2 ?side3 ?side4 A4.out).mono ?_); (case side1 => refine (Kd.R_reads' (e := 27) (base := w.heap.size) (ok := fun k_ => True) (n := ap.length) (c := bA) ?_).2.2; exact (by (with_reducible repeat (first | apply Kd.R_alloc | apply Kd.R_drewN | apply Kd.R_drew)); exact (Kd.R_mono (Kd.R_far (p := ⟨aj, 1, none⟩) (Kd.R_far (p := ⟨aj, 0, none⟩) (Kd.R_types bb.out ac.out (by decide)) (fun _ hk => hk.2) (.slice bI ap.length bA)) (fun _ hk => hk.2) (.slice bM au.length bJ)) (fun _ h_ => h_.1)))); (case side2 => exact (Kd.R_reads' bb.out).2.1); (case side3 => refine (Kd.R_reads' (e := 9) (base := w.heap.size) (ok := fun k_ => True) (n := au.length) (c := bJ) ?_).2.2; exact (by (with_reducible repeat (first | apply Kd.R_alloc | apply Kd.R_drewN | apply Kd.R_drew)); exact (Kd.R_mono (Kd.R_far (p := ⟨aj, 1, none⟩) (Kd.R_far (p := ⟨aj, 0, none⟩) (Kd.R_types bc.out ac.out (by decide)) (fun _ hk => hk.2) (.slice bI ap.length bA)) (fun _ hk => hk.2) (.slice bM au.length bJ)) (fun _ h_ => h_.1)))); (case side4 => exact (Kd.R_reads' bc.out).2.1); rintro e fv ⟨rfl, hb⟩; refine ⟨_, rfl, ?_⟩; replace bb := am (Kd.R_below (by (with_reducible repeat (first | apply Kd.R_alloc | apply Kd.R_drewN | apply Kd.R_drew)); exact (Kd.R_mono (Kd.R_far (p := ⟨aj, 1, none⟩) (Kd.R_far (p := ⟨aj, 0, none⟩) (Kd.R_types bb.out ac.out (by decide)) (fun _ hk => hk.2) (.slice bI ap.length bA)) (fun _ hk => hk.2) (.slice bM au.length bJ)) (fun _ h_ => h_.1))) hb); replace bc := am (Kd.R_below (by (with_reducible repeat (first | apply Kd.R_alloc | apply Kd.R_drewN | apply Kd.R_drew)); exact (Kd.R_mono (Kd.R_far (p := ⟨aj, 1, none⟩) (Kd.R_far (p := ⟨aj, 0, none⟩) (Kd.R_types bc.out ac.out (by decide)) (fun _ hk => hk.2) (.slice bI ap.length bA)) (fun _ hk => hk.2) (.slice bM au.length bJ)) (fun _ h_ => h_.1))) hb); replace HB := am (below_step (by repeat (first | (with_reducible first | exact HB.out | apply pA | apply pN | apply pD | refine eU ?_ (by assumption)) | exact HB.out)) hb); replace ac := am (blk_below (g := aj) (o := .cells #[.slice bI ap.length bA, .slice bM au.length bJ] 25 (0, 0)) (by (with_reducible repeat (first | apply bn | apply bd | apply ba)); refine blk_put (cs := #[.slice bI ap.length bA, .slice bx l0_1.length bz]) ?_ 1 _ rfl; (with_reducible repeat (first | apply bn | apply bd | apply ba)); refine blk_put (cs := #[.slice bC l0_0.length bD, .slice bx l0_1.length bz]) ?_ 0 _ rfl; exact bT ac.out) hb); (try clear hb); (try clear hb2); (try clear hk); (try clear hi)) | ((with_reducible refine gate_callee (f := 10) rfl ?_); refine goesL_ (some 19) rfl rfl Tryd.func10 (by kernel_rfl) rfl #[] rfl (by (try simp only [List.map_toArray, List.map_cons, List.map_nil]); first | done | rfl | (simp only [List.length_drop, List.length_take]; rfl)) ?_; (with_reducible refine (graftwoodlaw12_awake.calls k  bK _ eM.out (by first | exact hR_ | assumption)).mono ?_); rintro e fw ⟨rfl, hb⟩; refine ⟨_, rfl, ?_⟩; replace bb := am (rB bb.out hb); replace bc := am (rB bc.out hb); replace ac := am (bB ac.out hb); replace HB := am (below_step (by repeat (first | (with_reducible first | exact HB.out | apply pA | apply pN | apply pD | refine eU ?_ (by assumption)) | exact HB.out)) hb); (try clear hb); (try clear hb2); (try clear hk); (try clear hi)))
  go_ret
  exact ⟨by first | rfl | (simp [errW_none, errW_some] <;> rfl) | (simp [*, errW_none, errW_some] <;> rfl), eT HB.out⟩

end Go.Proofs.YtomjppafgalaoaaDoor.P
