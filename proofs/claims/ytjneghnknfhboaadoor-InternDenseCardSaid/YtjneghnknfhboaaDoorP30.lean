-- Written by this project's own program (wip/tools/hp.py), driving the kit's print; hand texts among it. Not trusted: Lean checks it.
-- half the indentation
import Derived.Test.YtjneghnknfhboaaDoorP0
import Derived.Test.YtjneghnknfhboaaDoorP29
namespace Go.Proofs.YtjneghnknfhboaaDoor.P
open Go.RowKit Go.Proofs.YtjneghnknfhboaaDoorW.PrintWords Go.Proofs.YtjneghnknfhboaaDoorW.PrintLast Go.Proofs.YtjneghnknfhboaaDoorW.PrintMore
attribute [local go_sem] max2_int min2_int max_two min_two max_three min_three max_four min_four   -- for this text's walks alone
set_option linter.unusedVariables false
set_option linter.unusedSimpArgs false

/-! ### graftwoodref05_With: function 30 -/
mutual
def graftwoodref05_With.l0 : Nat → List (S34) → List (S34) → Int → ByteArray → ByteArray → Option ((List (S34)))
 | 0, _, _, _, _, _ => none
 | k + 1, x0, x5, x6, x342000, x342001 => if x6 < (x0.length : Int) then (if 0 ≤ x6 then ((graftwoodref05_Less.f k ((rd_T34 x0 x6).f0) ((rd_T34 x0 x6).f1) x342000 x342001).bind fun t343 => (if t343 = true then (if x5.length < 4398046511104 then (graftwoodref05_With.l0 k x0 (x5 ++ [(⟨(rd_T34 x0 x6).f0, (rd_T34 x0 x6).f1⟩ : S34)]) (wrap64 (x6 + 1)) x342000 x342001) else (none)) else (graftwoodref05_With.l0 k x0 x5 (wrap64 (x6 + 1)) x342000 x342001))) else (none)) else (if x5.length < 4398046511104 then (graftwoodref05_With.l1 k x0 (x5 ++ [(⟨x342000, x342001⟩ : S34)]) 0 x342000 x342001) else (none))
def graftwoodref05_With.l1 : Nat → List (S34) → List (S34) → Int → ByteArray → ByteArray → Option ((List (S34)))
 | 0, _, _, _, _, _ => none
 | k + 1, x0, x5, x7, x342000, x342001 => if x7 < (x0.length : Int) then (if 0 ≤ x7 then ((graftwoodref05_Less.f k x342000 x342001 ((rd_T34 x0 x7).f0) ((rd_T34 x0 x7).f1)).bind fun t352 => (if t352 = true then (if x5.length < 4398046511104 then (graftwoodref05_With.l1 k x0 (x5 ++ [(⟨(rd_T34 x0 x7).f0, (rd_T34 x0 x7).f1⟩ : S34)]) (wrap64 (x7 + 1)) x342000 x342001) else (none)) else (graftwoodref05_With.l1 k x0 x5 (wrap64 (x7 + 1)) x342000 x342001))) else (none)) else (some x5)
end
def graftwoodref05_With.f (k : Nat) (l0 : List (S34)) (a1_0 : ByteArray) (a1_1 : ByteArray) : Option ((List (S34))) := graftwoodref05_With.l0 k l0 ([] : List (S34)) 0 a1_0 a1_1
theorem graftwoodref05_With.mono_l : ∀ k, (∀ y0 y1 y2 y3 y4, LeO (graftwoodref05_With.l0 k y0 y1 y2 y3 y4) (graftwoodref05_With.l0 (k + 1) y0 y1 y2 y3 y4)) ∧ (∀ y0 y1 y2 y3 y4, LeO (graftwoodref05_With.l1 k y0 y1 y2 y3 y4) (graftwoodref05_With.l1 (k + 1) y0 y1 y2 y3 y4))
 | 0 => ⟨fun _ _ _ _ _ r h => by simp [graftwoodref05_With.l0] at h, fun _ _ _ _ _ r h => by simp [graftwoodref05_With.l1] at h⟩
 | k + 1 => by
  obtain ⟨ih0, ih1⟩ := graftwoodref05_With.mono_l k
  refine ⟨?_, ?_⟩
  ·intro y0 y1 y2 y3 y4
   unfold graftwoodref05_With.l0
   repeat' first
   | (with_reducible exact ih0 _ _ _ _ _)
   | (with_reducible exact ih1 _ _ _ _ _)
   | (with_reducible exact graftwoodref05_Less.mono _ _ _ _ _)
   | (with_reducible exact LeO.refl _)
   | (with_reducible exact LeO.none _)
   | (with_reducible refine LeO.ite ?_ ?_)
   | (with_reducible refine LeO.bind ?_ (fun _ => ?_))
   | exact ih0 _ _ _ _ _
   | exact ih1 _ _ _ _ _
   | exact graftwoodref05_Less.mono _ _ _ _ _
   | exact LeO.none _
   | refine LeO.ite ?_ ?_
   | refine LeO.bind ?_ (fun _ => ?_)
  ·intro y0 y1 y2 y3 y4
   unfold graftwoodref05_With.l1
   repeat' first
   | (with_reducible exact ih0 _ _ _ _ _)
   | (with_reducible exact ih1 _ _ _ _ _)
   | (with_reducible exact graftwoodref05_Less.mono _ _ _ _ _)
   | (with_reducible exact LeO.refl _)
   | (with_reducible exact LeO.none _)
   | (with_reducible refine LeO.ite ?_ ?_)
   | (with_reducible refine LeO.bind ?_ (fun _ => ?_))
   | exact ih0 _ _ _ _ _
   | exact ih1 _ _ _ _ _
   | exact graftwoodref05_Less.mono _ _ _ _ _
   | exact LeO.none _
   | refine LeO.ite ?_ ?_
   | refine LeO.bind ?_ (fun _ => ?_)
theorem graftwoodref05_With.mono : ∀ a0 a1 a2 k, LeO (graftwoodref05_With.f k a0 a1 a2) (graftwoodref05_With.f (k + 1) a0 a1 a2) := by
 intro a0 a1 a2 k
 obtain ⟨ih0, ih1⟩ := graftwoodref05_With.mono_l k
 unfold graftwoodref05_With.f
 repeat' first
   | (with_reducible exact ih0 _ _ _ _ _)
   | (with_reducible exact ih1 _ _ _ _ _)
   | (with_reducible exact graftwoodref05_Less.mono _ _ _ _ _)
   | (with_reducible exact LeO.refl _)
   | (with_reducible exact LeO.none _)
   | (with_reducible refine LeO.ite ?_ ?_)
   | (with_reducible refine LeO.bind ?_ (fun _ => ?_))
   | exact ih0 _ _ _ _ _
   | exact ih1 _ _ _ _ _
   | exact graftwoodref05_Less.mono _ _ _ _ _
   | exact LeO.none _
   | refine LeO.ite ?_ ?_
   | refine LeO.bind ?_ (fun _ => ?_)
set_option maxHeartbeats 8000000 in
set_option maxRecDepth 100000 in
theorem graftwoodref05_With.calls (k : Nat) (A0 : Option Addr) (c0 : Nat) (l0 : List (S34)) (a1_0 : ByteArray) (a1_1 : ByteArray) (r : List (S34)) (w : World) (hr0 : Kd.C k34 w A0 l0.length l0) (hc0 : l0.length ≤ c0) (h : graftwoodref05_With.f k l0 a1_0 a1_1 = some r) :
  Calls Tryd.prog 30 #[.slice A0 l0.length c0, .agg #[.string a1_0, .string a1_1]] w fun e w' => ∃ v0_ : Value, e = .returned (v0_) ∧ Kd.R k34 34 w' w.heap.size (fun _ => True) v0_ r ∧ Below w.heap.size w w' := by
 have hu34 := Tryd.underlying34
 have HR0 := Aside0.mk hr0
 have HC0 := Aside0.mk hc0
 clear hr0 hc0
 have HB := Aside0.mk (Below.refl w.heap.size w)
 have H : (graftwoodref05_With.l0 k l0 ([] : List (S34)) 0 a1_0 a1_1) = some r := h
 clear h
 have H' := Aside0.mk H
 clear H
 go_enter Tryd.func30, Tryd.ntmps30
 go_wp2_with (first | ((with_reducible refine gate_dst (N := 3) rfl ?_); refine box_event ?hg (N := 3) ?hd (cs := #[.string a1_0, .string a1_1]) (t := 34) ?hr ?_; (case hd => rfl); (case hg => rfl); (case hr => first | (go_simp; done) | (go_simp; rfl)); intro gb341 hg w3 hbox hb; have n0_ := Aside0.mk (below_step (by repeat (first | (with_reducible first | exact HB.out | apply below_alloc | apply pw_below_drewN | apply below_drew1) | exact HB.out)) hb); have n1_ := Aside0.mk (hbox); have n2_ := Aside0.mk ((by rw [hg]; exact (below_size (by repeat (first | (with_reducible first | exact HB.out | apply below_alloc | apply pw_below_drewN | apply below_drew1) | exact HB.out))) : w.heap.size ≤ gb341)); have n3_ := Aside0.mk ((by rw [hg]; exact (below_size (by repeat (first | (with_reducible first | exact HB.out | apply below_alloc | apply pw_below_drewN | apply below_drew1) | exact HB.out))) : w.heap.size ≤ gb341)); clear HB; have HB := n0_; have BK341 := n1_; have GW341 := n2_; have GE341 := n3_; clear n0_ n1_ n2_ n3_; clear hb hbox hg))
 go_loopg [5, 6] k (fun kq v5 v6 w' => ∃ (x5_1 : List (S34)) (x6_1 : Int), v6 = .int .i64 x6_1 ∧ Aside0 (graftwoodref05_With.l0 kq l0 x5_1 x6_1 a1_0 a1_1 = some r) ∧ Aside0 (kq ≤ k) ∧ Aside0 (Kd.R k34 34 w' w.heap.size (fun k_ => k_ ≠ gb341) v5 x5_1) ∧ Aside0 (w'.heap[gb341]? = some (.cells #[.string a1_0, .string a1_1] 34 (0, 0))) ∧ Aside0 (Below w.heap.size w w'))
 case atStart => exact ⟨(([] : List (S34))), (0), (by first | rfl | (simp; done) | (simp [*]; done)), H', ⟨Nat.le_refl _⟩, ⟨by first | exact Kd.R_nil _ _ _ _ _ | exact Kd.N_nil _ _ _ _ _ | exact Kd.V_nil _ _ _ _ _ | exact Kd.Q_nil _ _ _ _ _ | exact Kd.S_nil _ _ _ _ _⟩, ⟨by (with_reducible repeat (first | refine blk_drewN ?_ _ | refine blk_drew ?_ | refine blk_alloc ?_ _)); exact BK341.out⟩, ⟨by repeat (first | (with_reducible first | exact HB.out | apply below_alloc | apply pw_below_drewN | apply below_drew1 | refine below_set ?_ GE341.out) | exact HB.out)⟩⟩
 case round =>
  clear H'
  try clear p2
  try clear c3
  obtain ⟨x5_1, x6_1, rfl, HA, HK1, HO_5, BK341, HB⟩ := hrel
  cases gk with
  | zero => exact absurd HA.out (by simp [graftwoodref05_With.l0])
  | succ k1 =>
   have H := HA.out
   clear HA
   simp only [graftwoodref05_With.l0] at H
   by_cases c4 : x6_1 < (l0.length : Int)
   ·rw [if_pos c4] at H
    have c4b0 : decide (x6_1 < (l0.length : Int)) = true := decide_eq_true c4
    clear c4
    by_cases c5 : 0 ≤ x6_1
    ·rw [if_pos c5] at H
     have c5b0 : decide (0 ≤ x6_1) = true := decide_eq_true c5
     clear c5
     replace H := Option.bind_eq_some_iff.mp H
     obtain ⟨t343, A60, H⟩ := H
     replace H : (if t343 = true then (if x5_1.length < 4398046511104 then (graftwoodref05_With.l0 k1 l0 (x5_1 ++ [(⟨(rd_T34 l0 x6_1).f0, (rd_T34 l0 x6_1).f1⟩ : S34)]) (wrap64 (x6_1 + 1)) a1_0 a1_1) else (none)) else (graftwoodref05_With.l0 k1 l0 x5_1 (wrap64 (x6_1 + 1)) a1_0 a1_1)) = some r := H
     have A6 := Aside0.mk A60
     clear A60
     by_cases c7 : t343 = true
     ·subst c7
      have H1 : (if x5_1.length < 4398046511104 then (graftwoodref05_With.l0 k1 l0 (x5_1 ++ [(⟨(rd_T34 l0 x6_1).f0, (rd_T34 l0 x6_1).f1⟩ : S34)]) (wrap64 (x6_1 + 1)) a1_0 a1_1) else (none)) = some r := by rw [if_pos rfl] at H; exact H
      clear H
      have H := H1
      clear H1
      by_cases c8 : x5_1.length < 4398046511104
      ·rw [if_pos c8] at H
       have LMc8 := Aside0.mk c8
       clear c8
       obtain ⟨y345, hy345⟩ : ∃ y_ : List (S34), y_ = (x5_1 ++ [(⟨(rd_T34 l0 x6_1).f0, (rd_T34 l0 x6_1).f1⟩ : S34)]) := ⟨_, rfl⟩
       replace H : (graftwoodref05_With.l0 k1 l0 y345 (wrap64 (x6_1 + 1)) a1_0 a1_1) = some r := by first | (rw [hy345]; with_reducible exact H) | (have H2_ := (Option.bind_some _ _).symm.trans H; rw [hy345]; with_reducible exact H2_) | (have H2_ := (Option.bind_some _ _).symm.trans H; with_reducible exact H2_) | with_reducible exact H | (rw [hy345]; exact H) | exact H
       have Ny345 := Aside0.mk hy345
       clear hy345
       have H' := Aside0.mk H
       clear H
       try go_wp2
       have n0_ := Aside0.mk (Kd.R_drew HO_5.out)
       have n1_ := Aside0.mk (blk_drew BK341.out)
       have n2_ := Aside0.mk (below_drew1 HB.out)
       clear HO_5 BK341 HB
       have HO_5 := n0_
       have BK341 := n1_
       have HB := n2_
       clear n0_ n1_ n2_
       have p342 : 0 ≤ (x6_1 : Int) := of_decide_eq_true (by first | (with_reducible assumption) | assumption)
       have q342 : x6_1 < (l0.length : Int) := of_decide_eq_true (by first | (with_reducible assumption) | assumption)
       obtain ⟨ad342, e342, hx342_0, hx342_1⟩ := at_T34 HR0.out x6_1 p342 q342
       have hw342_1 := hx342_1
       have hw342_0 := hx342_0
       cases e342
       replace hx342_0 := (HB.out.cell (World.block_lt_of_cell? w _ hx342_0)).trans hx342_0
       replace hx342_1 := (HB.out.cell (World.block_lt_of_cell? w _ hx342_1)).trans hx342_1
       replace p342 := eq_true p342
       replace q342 := eq_true q342
       refine start_ (n := 6) (S := fun w' => w'.cell? ⟨gb341, 0, none⟩ = some (.string a1_0) ∧ w'.cell? ⟨gb341, 1, none⟩ = some (.string a1_1) ∧ w'.cell? (ad342.add ((x6_1).toNat * 2)) = some (.string ((rd_T34 l0 x6_1).f0)) ∧ w'.cell? ⟨(ad342.add ((x6_1).toNat * 2)).block, (ad342.add ((x6_1).toNat * 2)).off + 1, none⟩ = some (.string ((rd_T34 l0 x6_1).f1))) (ds := []) #[false, false, false, false, false, false] (by kernel_rfl) rfl rfl ⟨(blk_cell BK341.out 0).trans rfl, (blk_cell BK341.out 1).trans rfl, ((HB.out.cell (World.block_lt_of_cell? w _ hw342_0)).trans hw342_0), ((HB.out.cell (World.block_lt_of_cell? w _ hw342_1)).trans hw342_1)⟩ (fun hHeld => ?_)
       generalize wr.drew = w9 at HO_5 BK341 HB hx342_0 hx342_1 hHeld ⊢
       refine pure_ (i := 0) (N := some 14) (v := ?_) (a' := ?_) #[true, false, false, false, false, false] rfl rfl (by kernel_rfl) (fun _ _ _ h => h) (Or.inl ⟨by rfl, ?_⟩) ?_ ?_
       rotate_left
       ·intro w'
        go_simp
        with_reducible rfl
       rotate_left
       ·simp only [Act.put, List.setIfInBounds_toArray, List.set_cons_zero, List.set_cons_succ, i64_w, i32_w]
        rfl
       refine pure_ (i := 1) (N := some 15) (v := ?_) (a' := ?_) #[true, true, false, false, false, false] rfl rfl (by kernel_rfl) (fun _ _ _ h => h) (Or.inl ⟨by rfl, ?_⟩) ?_ ?_
       rotate_left
       ·intro w'
        go_simp
        with_reducible rfl
       rotate_left
       ·simp only [Act.put, List.setIfInBounds_toArray, List.set_cons_zero, List.set_cons_succ, i64_w, i32_w]
        rfl
       refine pure_ (i := 2) (N := some 16) (v := ?_) (a' := ?_) #[true, true, true, false, false, false] rfl rfl (by kernel_rfl) (fun _ _ _ h => h) (Or.inl ⟨by rfl, ?_⟩) ?_ ?_
       rotate_left
       ·intro w'
        go_simp
        with_reducible rfl
       rotate_left
       ·simp only [Act.put, List.setIfInBounds_toArray, List.set_cons_zero, List.set_cons_succ, i64_w, i32_w]
        rfl
       refine take_ (i := 3) (N := some 17) (v := ?_) (a' := ?_) #[true, true, true, true, false, false] rfl rfl (by kernel_rfl) (fun _ _ _ h => h) (Or.inl ⟨by rfl, ?_⟩) hHeld ?_ ?_
       rotate_left
       ·rintro w' ⟨s0, s1, s2, s3⟩
        go_simp
        with_reducible rfl
       rotate_left
       ·simp only [Act.put, List.setIfInBounds_toArray, List.set_cons_zero, List.set_cons_succ, i64_w, i32_w]
        rfl
       refine take_ (i := 4) (N := some 18) (v := ?_) (a' := ?_) #[true, true, true, true, true, false] rfl rfl (by kernel_rfl) (fun _ _ _ h => h) (Or.inl ⟨by rfl, ?_⟩) hHeld ?_ ?_
       rotate_left
       ·rintro w' ⟨s0, s1, s2, s3⟩
        go_simp
        with_reducible rfl
       rotate_left
       ·simp only [Act.put, List.setIfInBounds_toArray, List.set_cons_zero, List.set_cons_succ, i64_w, i32_w]
        rfl
       refine one_ (i := 5) (N := some 19) #[true, true, true, true, true, true] rfl rfl (by kernel_rfl) (by decide) (fun K hK => ?_)
       refine goes_ Tryd.func37 (by kernel_rfl) rfl #[.agg #[.string ((rd_T34 l0 x6_1).f0), .string ((rd_T34 l0 x6_1).f1)], .agg #[.string a1_0, .string a1_1]] (by rfl) rfl rfl (by (try simp only [List.map_toArray, List.map_cons, List.map_nil]); first | done | rfl | (simp only [List.length_drop, List.length_take]; rfl)) ?_
       with_reducible refine (graftwoodref05_Less.calls k1 ((rd_T34 l0 x6_1).f0) ((rd_T34 l0 x6_1).f1) a1_0 a1_1 true _ A6.out).mono ?_
       rintro e w10 ⟨rfl, hb⟩
       refine ⟨_, rfl, ?_⟩
       have n0_ := Aside0.mk (Kd.R_below (by (with_reducible repeat (first | apply Kd.R_alloc | apply Kd.R_drewN | apply Kd.R_drew)); exact HO_5.out) hb)
       have n1_ := Aside0.mk (blk_below (g := gb341) (o := .cells #[.string a1_0, .string a1_1] 34 (0, 0)) (by (with_reducible repeat (first | refine blk_drewN ?_ _ | refine blk_drew ?_ | refine blk_alloc ?_ _)); exact BK341.out) hb)
       have n2_ := Aside0.mk (below_step (by repeat (first | (with_reducible first | exact HB.out | apply below_alloc | apply pw_below_drewN | apply below_drew1 | refine below_set ?_ GE341.out) | exact HB.out)) hb)
       clear HO_5 BK341 HB
       have HO_5 := n0_
       have BK341 := n1_
       have HB := n2_
       clear n0_ n1_ n2_
       (try clear hb)
       (try clear hb2)
       (try clear hk)
       (try clear hi)
       refine hK.out _ _ ⟨(blk_cell BK341.out 0).trans rfl, (blk_cell BK341.out 1).trans rfl, ((HB.out.cell (World.block_lt_of_cell? w _ hw342_0)).trans hw342_0), ((HB.out.cell (World.block_lt_of_cell? w _ hw342_1)).trans hw342_1)⟩ (fun hHeld => ?_)
       clear hK K
       refine norm_ (a' := ?_) ?_ ?_
       rotate_left
       ·show Act.put _ (some 19) _ = _
        simp only [Act.put, List.setIfInBounds_toArray, List.set_cons_zero, List.set_cons_succ, i64_w, i32_w]
        rfl
       refine done_ (by kernel_rfl) ?_
       have p344 : 0 ≤ (x6_1 : Int) := of_decide_eq_true (by first | (with_reducible assumption) | assumption)
       have q344 : x6_1 < (l0.length : Int) := of_decide_eq_true (by first | (with_reducible assumption) | assumption)
       obtain ⟨ad344, e344, hx344_0, hx344_1⟩ := at_T34 HR0.out x6_1 p344 q344
       obtain rfl : ad342 = ad344 := (by injection e344)
       replace hx344_0 := (HB.out.cell (World.block_lt_of_cell? w _ hx344_0)).trans hx344_0
       replace hx344_1 := (HB.out.cell (World.block_lt_of_cell? w _ hx344_1)).trans hx344_1
       replace p344 := eq_true p344
       replace q344 := eq_true q344
       try go_wp2_with (first | ((with_reducible refine gate_builtin (b := .append) (xs := #[.tmp 20, .tmp 25]) rfl ?_); at_builtin; refine Kd.R_append k34 (w0 := w) w.heap.size rfl (.tmp 20) (.tmp 25) 22 34 (.agg #[(.string ⟨#[]⟩), (.string ⟨#[]⟩)]) 32 rfl Tryd.underlying22 info34 rfl (by decide) (by omega) u5 x5_1 (⟨(rd_T34 l0 x6_1).f0, (rd_T34 l0 x6_1).f1⟩ : S34) [.string ((rd_T34 l0 x6_1).f0), .string ((rd_T34 l0 x6_1).f1)] (fun k_ => k_ ≠ gb341) (fun _ => False) rfl rfl ?aP (fun _ hk => hk.elim) ?aF ?aO ?aB ?aS ?aL ?_; (case aP => exact k34_mkM _ _ _ (⟨(rd_T34 l0 x6_1).f0, (rd_T34 l0 x6_1).f1⟩ : S34)); (case aB => exact (by repeat (first | (with_reducible first | exact HB.out | apply below_alloc | apply pw_below_drewN | apply below_drew1 | refine below_set ?_ GE341.out) | exact HB.out))); (case aF => exact (fun k_ hk => Kd.freshB (g := gb341) (o := .cells #[.string a1_0, .string a1_1] 34 (0, 0)) (by (with_reducible repeat (first | refine blk_drewN ?_ _ | refine blk_drew ?_ | refine blk_alloc ?_ _)); exact BK341.out) k_ hk)); (case aO => exact (by (with_reducible repeat (first | apply Kd.R_alloc | apply Kd.R_drewN | apply Kd.R_drew)); exact HO_5.out)); (case aS => exact (below_size (by repeat (first | (with_reducible first | exact HB.out | apply below_alloc | apply pw_below_drewN | apply below_drew1 | refine below_set ?_ GE341.out) | exact HB.out)))); (case aL => have := LMc8.out; omega); intro v346 w11 ho hb hg hat; rw [← Ny345.out] at ho; have n0_ := Aside0.mk (blk_grown (g := gb341) (o := .cells #[.string a1_0, .string a1_1] 34 (0, 0)) (by (with_reducible repeat (first | refine blk_drewN ?_ _ | refine blk_drew ?_ | refine blk_alloc ?_ _)); exact BK341.out) hg (Kd.R_away HO_5.out (fun _ hk => hk))); have n1_ := Aside0.mk (hb); have n2_ := Aside0.mk (ho); clear BK341; clear HB; clear HO_5; have BK341 := n0_; have HB := n1_; have HO347 := n2_; clear n0_ n1_ n2_; clear ho hb hg hat))
       go_roundg k1
       case measure => have := HK1.out; omega
       case rel => exact ⟨(y345), (wrap64 (x6_1 + 1)), (by first | rfl | (simp; done) | (simp [*]; done)), H', ⟨by have := HK1.out; omega⟩, ⟨by (with_reducible repeat (first | apply Kd.R_alloc | apply Kd.R_drewN | apply Kd.R_drew)); exact HO347.out⟩, ⟨by (with_reducible repeat (first | refine blk_drewN ?_ _ | refine blk_drew ?_ | refine blk_alloc ?_ _)); exact BK341.out⟩, ⟨by repeat (first | (with_reducible first | exact HB.out | apply below_alloc | apply pw_below_drewN | apply below_drew1 | refine below_set ?_ GE341.out) | exact HB.out)⟩⟩
      ·rw [if_neg c8] at H
       exact absurd H (by simp)
     ·replace c7 := Bool.eq_false_iff.mpr c7
      subst c7
      have H1 : (graftwoodref05_With.l0 k1 l0 x5_1 (wrap64 (x6_1 + 1)) a1_0 a1_1) = some r := by rw [if_neg (show ¬ (false = true) by decide)] at H; exact H
      clear H
      have H := H1
      clear H1
      have H' := Aside0.mk H
      clear H
      try go_wp2
      have n0_ := Aside0.mk (Kd.R_drew HO_5.out)
      have n1_ := Aside0.mk (blk_drew BK341.out)
      have n2_ := Aside0.mk (below_drew1 HB.out)
      clear HO_5 BK341 HB
      have HO_5 := n0_
      have BK341 := n1_
      have HB := n2_
      clear n0_ n1_ n2_
      have p342 : 0 ≤ (x6_1 : Int) := of_decide_eq_true (by first | (with_reducible assumption) | assumption)
      have q342 : x6_1 < (l0.length : Int) := of_decide_eq_true (by first | (with_reducible assumption) | assumption)
      obtain ⟨ad342, e342, hx342_0, hx342_1⟩ := at_T34 HR0.out x6_1 p342 q342
      have hw342_1 := hx342_1
      have hw342_0 := hx342_0
      cases e342
      replace hx342_0 := (HB.out.cell (World.block_lt_of_cell? w _ hx342_0)).trans hx342_0
      replace hx342_1 := (HB.out.cell (World.block_lt_of_cell? w _ hx342_1)).trans hx342_1
      replace p342 := eq_true p342
      replace q342 := eq_true q342
      refine start_ (n := 6) (S := fun w' => w'.cell? ⟨gb341, 0, none⟩ = some (.string a1_0) ∧ w'.cell? ⟨gb341, 1, none⟩ = some (.string a1_1) ∧ w'.cell? (ad342.add ((x6_1).toNat * 2)) = some (.string ((rd_T34 l0 x6_1).f0)) ∧ w'.cell? ⟨(ad342.add ((x6_1).toNat * 2)).block, (ad342.add ((x6_1).toNat * 2)).off + 1, none⟩ = some (.string ((rd_T34 l0 x6_1).f1))) (ds := []) #[false, false, false, false, false, false] (by kernel_rfl) rfl rfl ⟨(blk_cell BK341.out 0).trans rfl, (blk_cell BK341.out 1).trans rfl, ((HB.out.cell (World.block_lt_of_cell? w _ hw342_0)).trans hw342_0), ((HB.out.cell (World.block_lt_of_cell? w _ hw342_1)).trans hw342_1)⟩ (fun hHeld => ?_)
      generalize wr.drew = w12 at HO_5 BK341 HB hx342_0 hx342_1 hHeld ⊢
      refine pure_ (i := 0) (N := some 14) (v := ?_) (a' := ?_) #[true, false, false, false, false, false] rfl rfl (by kernel_rfl) (fun _ _ _ h => h) (Or.inl ⟨by rfl, ?_⟩) ?_ ?_
      rotate_left
      ·intro w'
       go_simp
       with_reducible rfl
      rotate_left
      ·simp only [Act.put, List.setIfInBounds_toArray, List.set_cons_zero, List.set_cons_succ, i64_w, i32_w]
       rfl
      refine pure_ (i := 1) (N := some 15) (v := ?_) (a' := ?_) #[true, true, false, false, false, false] rfl rfl (by kernel_rfl) (fun _ _ _ h => h) (Or.inl ⟨by rfl, ?_⟩) ?_ ?_
      rotate_left
      ·intro w'
       go_simp
       with_reducible rfl
      rotate_left
      ·simp only [Act.put, List.setIfInBounds_toArray, List.set_cons_zero, List.set_cons_succ, i64_w, i32_w]
       rfl
      refine pure_ (i := 2) (N := some 16) (v := ?_) (a' := ?_) #[true, true, true, false, false, false] rfl rfl (by kernel_rfl) (fun _ _ _ h => h) (Or.inl ⟨by rfl, ?_⟩) ?_ ?_
      rotate_left
      ·intro w'
       go_simp
       with_reducible rfl
      rotate_left
      ·simp only [Act.put, List.setIfInBounds_toArray, List.set_cons_zero, List.set_cons_succ, i64_w, i32_w]
       rfl
      refine take_ (i := 3) (N := some 17) (v := ?_) (a' := ?_) #[true, true, true, true, false, false] rfl rfl (by kernel_rfl) (fun _ _ _ h => h) (Or.inl ⟨by rfl, ?_⟩) hHeld ?_ ?_
      rotate_left
      ·rintro w' ⟨s0, s1, s2, s3⟩
       go_simp
       with_reducible rfl
      rotate_left
      ·simp only [Act.put, List.setIfInBounds_toArray, List.set_cons_zero, List.set_cons_succ, i64_w, i32_w]
       rfl
      refine take_ (i := 4) (N := some 18) (v := ?_) (a' := ?_) #[true, true, true, true, true, false] rfl rfl (by kernel_rfl) (fun _ _ _ h => h) (Or.inl ⟨by rfl, ?_⟩) hHeld ?_ ?_
      rotate_left
      ·rintro w' ⟨s0, s1, s2, s3⟩
       go_simp
       with_reducible rfl
      rotate_left
      ·simp only [Act.put, List.setIfInBounds_toArray, List.set_cons_zero, List.set_cons_succ, i64_w, i32_w]
       rfl
      refine one_ (i := 5) (N := some 19) #[true, true, true, true, true, true] rfl rfl (by kernel_rfl) (by decide) (fun K hK => ?_)
      refine goes_ Tryd.func37 (by kernel_rfl) rfl #[.agg #[.string ((rd_T34 l0 x6_1).f0), .string ((rd_T34 l0 x6_1).f1)], .agg #[.string a1_0, .string a1_1]] (by rfl) rfl rfl (by (try simp only [List.map_toArray, List.map_cons, List.map_nil]); first | done | rfl | (simp only [List.length_drop, List.length_take]; rfl)) ?_
      with_reducible refine (graftwoodref05_Less.calls k1 ((rd_T34 l0 x6_1).f0) ((rd_T34 l0 x6_1).f1) a1_0 a1_1 false _ A6.out).mono ?_
      rintro e w13 ⟨rfl, hb⟩
      refine ⟨_, rfl, ?_⟩
      have n0_ := Aside0.mk (Kd.R_below (by (with_reducible repeat (first | apply Kd.R_alloc | apply Kd.R_drewN | apply Kd.R_drew)); exact HO_5.out) hb)
      have n1_ := Aside0.mk (blk_below (g := gb341) (o := .cells #[.string a1_0, .string a1_1] 34 (0, 0)) (by (with_reducible repeat (first | refine blk_drewN ?_ _ | refine blk_drew ?_ | refine blk_alloc ?_ _)); exact BK341.out) hb)
      have n2_ := Aside0.mk (below_step (by repeat (first | (with_reducible first | exact HB.out | apply below_alloc | apply pw_below_drewN | apply below_drew1 | refine below_set ?_ GE341.out) | exact HB.out)) hb)
      clear HO_5 BK341 HB
      have HO_5 := n0_
      have BK341 := n1_
      have HB := n2_
      clear n0_ n1_ n2_
      (try clear hb)
      (try clear hb2)
      (try clear hk)
      (try clear hi)
      refine hK.out _ _ ⟨(blk_cell BK341.out 0).trans rfl, (blk_cell BK341.out 1).trans rfl, ((HB.out.cell (World.block_lt_of_cell? w _ hw342_0)).trans hw342_0), ((HB.out.cell (World.block_lt_of_cell? w _ hw342_1)).trans hw342_1)⟩ (fun hHeld => ?_)
      clear hK K
      refine norm_ (a' := ?_) ?_ ?_
      rotate_left
      ·show Act.put _ (some 19) _ = _
       simp only [Act.put, List.setIfInBounds_toArray, List.set_cons_zero, List.set_cons_succ, i64_w, i32_w]
       rfl
      refine done_ (by kernel_rfl) ?_
      try go_wp2
      go_roundg k1
      case measure => have := HK1.out; omega
      case rel => exact ⟨(x5_1), (wrap64 (x6_1 + 1)), (by first | rfl | (simp; done) | (simp [*]; done)), H', ⟨by have := HK1.out; omega⟩, ⟨by (with_reducible repeat (first | apply Kd.R_alloc | apply Kd.R_drewN | apply Kd.R_drew)); exact HO_5.out⟩, ⟨by (with_reducible repeat (first | refine blk_drewN ?_ _ | refine blk_drew ?_ | refine blk_alloc ?_ _)); exact BK341.out⟩, ⟨by repeat (first | (with_reducible first | exact HB.out | apply below_alloc | apply pw_below_drewN | apply below_drew1 | refine below_set ?_ GE341.out) | exact HB.out)⟩⟩
    ·rw [if_neg c5] at H
     exact absurd H (by simp)
   ·rw [if_neg c4] at H
    have c4b0 : decide (x6_1 < (l0.length : Int)) = false := decide_eq_false c4
    clear c4
    by_cases c14 : x5_1.length < 4398046511104
    ·rw [if_pos c14] at H
     have LMc14 := Aside0.mk c14
     clear c14
     obtain ⟨y348, hy348⟩ : ∃ y_ : List (S34), y_ = (x5_1 ++ [(⟨a1_0, a1_1⟩ : S34)]) := ⟨_, rfl⟩
     replace H : (graftwoodref05_With.l1 k1 l0 y348 0 a1_0 a1_1) = some r := by first | (rw [hy348]; with_reducible exact H) | (have H2_ := (Option.bind_some _ _).symm.trans H; rw [hy348]; with_reducible exact H2_) | (have H2_ := (Option.bind_some _ _).symm.trans H; with_reducible exact H2_) | with_reducible exact H | (rw [hy348]; exact H) | exact H
     have Ny348 := Aside0.mk hy348
     clear hy348
     have H' := Aside0.mk H
     clear H
     have hcz15_0 : wr.cell? ⟨gb341, 0, none⟩ = some (.string a1_0) := (blk_cell BK341.out 0).trans rfl
     have hcz15_1 : wr.cell? ⟨gb341, 1, none⟩ = some (.string a1_1) := (blk_cell BK341.out 1).trans rfl
     have hfz15_0 := blk_frozen BK341.out 0
     have hfz15_1 := blk_frozen BK341.out 1
     go_wp2_with (first | ((with_reducible refine gate_builtin (b := .append) (xs := #[.tmp 27, .tmp 29]) rfl ?_); at_builtin; refine Kd.R_append k34 (w0 := w) w.heap.size rfl (.tmp 27) (.tmp 29) 22 34 (.agg #[(.string ⟨#[]⟩), (.string ⟨#[]⟩)]) 32 rfl Tryd.underlying22 info34 rfl (by decide) (by omega) u5 x5_1 (⟨a1_0, a1_1⟩ : S34) [.string a1_0, .string a1_1] (fun k_ => k_ ≠ gb341) (fun _ => False) rfl rfl ?aP (fun _ hk => hk.elim) ?aF ?aO ?aB ?aS ?aL ?_; (case aP => exact k34_mkM _ _ _ (⟨a1_0, a1_1⟩ : S34)); (case aB => exact (by repeat (first | (with_reducible first | exact HB.out | apply below_alloc | apply pw_below_drewN | apply below_drew1 | refine below_set ?_ GE341.out) | exact HB.out))); (case aF => exact (fun k_ hk => Kd.freshB (g := gb341) (o := .cells #[.string a1_0, .string a1_1] 34 (0, 0)) (by (with_reducible repeat (first | refine blk_drewN ?_ _ | refine blk_drew ?_ | refine blk_alloc ?_ _)); exact BK341.out) k_ hk)); (case aO => exact (by (with_reducible repeat (first | apply Kd.R_alloc | apply Kd.R_drewN | apply Kd.R_drew)); exact HO_5.out)); (case aS => exact (below_size (by repeat (first | (with_reducible first | exact HB.out | apply below_alloc | apply pw_below_drewN | apply below_drew1 | refine below_set ?_ GE341.out) | exact HB.out)))); (case aL => have := LMc14.out; omega); intro v349 w16 ho hb hg hat; rw [← Ny348.out] at ho; have n0_ := Aside0.mk (blk_grown (g := gb341) (o := .cells #[.string a1_0, .string a1_1] 34 (0, 0)) (by (with_reducible repeat (first | refine blk_drewN ?_ _ | refine blk_drew ?_ | refine blk_alloc ?_ _)); exact BK341.out) hg (Kd.R_away HO_5.out (fun _ hk => hk))); have n1_ := Aside0.mk (hb); have n2_ := Aside0.mk (ho); clear BK341; clear HB; clear HO_5; have BK341 := n0_; have HB := n1_; have HO350 := n2_; clear n0_ n1_ n2_; clear ho hb hg hat))
     go_loopg [5, 7] k1 (fun kq v5 v7 w' => ∃ (x5_2 : List (S34)) (x7_2 : Int), v7 = .int .i64 x7_2 ∧ Aside0 (graftwoodref05_With.l1 kq l0 x5_2 x7_2 a1_0 a1_1 = some r) ∧ Aside0 (kq ≤ k1) ∧ Aside0 (Kd.R k34 34 w' w.heap.size (fun k_ => k_ ≠ gb341) v5 x5_2) ∧ Aside0 (w'.heap[gb341]? = some (.cells #[.string a1_0, .string a1_1] 34 (0, 0))) ∧ Aside0 (Below w.heap.size w w'))
     case atStart => exact ⟨(y348), (0), (by first | rfl | (simp; done) | (simp [*]; done)), H', ⟨Nat.le_refl _⟩, ⟨by (with_reducible repeat (first | apply Kd.R_alloc | apply Kd.R_drewN | apply Kd.R_drew)); exact HO350.out⟩, ⟨by (with_reducible repeat (first | refine blk_drewN ?_ _ | refine blk_drew ?_ | refine blk_alloc ?_ _)); exact BK341.out⟩, ⟨by repeat (first | (with_reducible first | exact HB.out | apply below_alloc | apply pw_below_drewN | apply below_drew1 | refine below_set ?_ GE341.out) | exact HB.out)⟩⟩
     case round =>
      clear H'
      try clear c1
      try clear p2
      try clear c3
      try clear p3
      try clear q3
      try clear hx3
      try clear c4
      try clear c4b0
      try clear c5
      try clear c5b0
      try clear p6
      try clear c7
      try clear c8
      try clear c14
      try clear hcz15_0
      try clear hcz15_1
      try clear hfz15_0
      try clear hfz15_1
      try clear hx342_0
      try clear hx342_1
      try clear hx344_0
      try clear hx344_1
      try clear p2
      try clear p342
      try clear p344
      try clear q342
      try clear q344
      obtain ⟨x5_2, x7_2, rfl, HA, HK2, HO_5, BK341, HB⟩ := hrel
      cases gk with
      | zero => exact absurd HA.out (by simp [graftwoodref05_With.l1])
      | succ k2 =>
       have H := HA.out
       clear HA
       simp only [graftwoodref05_With.l1] at H
       by_cases c17 : x7_2 < (l0.length : Int)
       ·rw [if_pos c17] at H
        have c17b0 : decide (x7_2 < (l0.length : Int)) = true := decide_eq_true c17
        clear c17
        by_cases c18 : 0 ≤ x7_2
        ·rw [if_pos c18] at H
         have c18b0 : decide (0 ≤ x7_2) = true := decide_eq_true c18
         clear c18
         replace H := Option.bind_eq_some_iff.mp H
         obtain ⟨t352, A190, H⟩ := H
         replace H : (if t352 = true then (if x5_2.length < 4398046511104 then (graftwoodref05_With.l1 k2 l0 (x5_2 ++ [(⟨(rd_T34 l0 x7_2).f0, (rd_T34 l0 x7_2).f1⟩ : S34)]) (wrap64 (x7_2 + 1)) a1_0 a1_1) else (none)) else (graftwoodref05_With.l1 k2 l0 x5_2 (wrap64 (x7_2 + 1)) a1_0 a1_1)) = some r := H
         have A19 := Aside0.mk A190
         clear A190
         by_cases c20 : t352 = true
         ·subst c20
          have H1 : (if x5_2.length < 4398046511104 then (graftwoodref05_With.l1 k2 l0 (x5_2 ++ [(⟨(rd_T34 l0 x7_2).f0, (rd_T34 l0 x7_2).f1⟩ : S34)]) (wrap64 (x7_2 + 1)) a1_0 a1_1) else (none)) = some r := by rw [if_pos rfl] at H; exact H
          clear H
          have H := H1
          clear H1
          by_cases c21 : x5_2.length < 4398046511104
          ·rw [if_pos c21] at H
           have LMc21 := Aside0.mk c21
           clear c21
           obtain ⟨y354, hy354⟩ : ∃ y_ : List (S34), y_ = (x5_2 ++ [(⟨(rd_T34 l0 x7_2).f0, (rd_T34 l0 x7_2).f1⟩ : S34)]) := ⟨_, rfl⟩
           replace H : (graftwoodref05_With.l1 k2 l0 y354 (wrap64 (x7_2 + 1)) a1_0 a1_1) = some r := by first | (rw [hy354]; with_reducible exact H) | (have H2_ := (Option.bind_some _ _).symm.trans H; rw [hy354]; with_reducible exact H2_) | (have H2_ := (Option.bind_some _ _).symm.trans H; with_reducible exact H2_) | with_reducible exact H | (rw [hy354]; exact H) | exact H
           have Ny354 := Aside0.mk hy354
           clear hy354
           have H' := Aside0.mk H
           clear H
           try go_wp2
           have n0_ := Aside0.mk (Kd.R_drew HO_5.out)
           have n1_ := Aside0.mk (blk_drew BK341.out)
           have n2_ := Aside0.mk (below_drew1 HB.out)
           clear HO_5 BK341 HB
           have HO_5 := n0_
           have BK341 := n1_
           have HB := n2_
           clear n0_ n1_ n2_
           have p351 : 0 ≤ (x7_2 : Int) := of_decide_eq_true (by first | (with_reducible assumption) | assumption)
           have q351 : x7_2 < (l0.length : Int) := of_decide_eq_true (by first | (with_reducible assumption) | assumption)
           obtain ⟨ad351, e351, hx351_0, hx351_1⟩ := at_T34 HR0.out x7_2 p351 q351
           have hw351_1 := hx351_1
           have hw351_0 := hx351_0
           cases e351
           replace hx351_0 := (HB.out.cell (World.block_lt_of_cell? w _ hx351_0)).trans hx351_0
           replace hx351_1 := (HB.out.cell (World.block_lt_of_cell? w _ hx351_1)).trans hx351_1
           replace p351 := eq_true p351
           replace q351 := eq_true q351
           refine start_ (n := 6) (S := fun w' => w'.cell? ⟨gb341, 0, none⟩ = some (.string a1_0) ∧ w'.cell? ⟨gb341, 1, none⟩ = some (.string a1_1) ∧ w'.cell? (ad351.add ((x7_2).toNat * 2)) = some (.string ((rd_T34 l0 x7_2).f0)) ∧ w'.cell? ⟨(ad351.add ((x7_2).toNat * 2)).block, (ad351.add ((x7_2).toNat * 2)).off + 1, none⟩ = some (.string ((rd_T34 l0 x7_2).f1))) (ds := []) #[false, false, false, false, false, false] (by kernel_rfl) rfl rfl ⟨(blk_cell BK341.out 0).trans rfl, (blk_cell BK341.out 1).trans rfl, ((HB.out.cell (World.block_lt_of_cell? w _ hw351_0)).trans hw351_0), ((HB.out.cell (World.block_lt_of_cell? w _ hw351_1)).trans hw351_1)⟩ (fun hHeld => ?_)
           generalize wr.drew = w22 at HO_5 BK341 HB hx351_0 hx351_1 hHeld ⊢
           refine pure_ (i := 1) (N := some 38) (v := ?_) (a' := ?_) #[false, true, false, false, false, false] rfl rfl (by kernel_rfl) (fun _ _ _ h => h) (Or.inl ⟨by rfl, ?_⟩) ?_ ?_
           rotate_left
           ·intro w'
            go_simp
            with_reducible rfl
           rotate_left
           ·simp only [Act.put, List.setIfInBounds_toArray, List.set_cons_zero, List.set_cons_succ, i64_w, i32_w]
            rfl
           refine pure_ (i := 2) (N := some 39) (v := ?_) (a' := ?_) #[false, true, true, false, false, false] rfl rfl (by kernel_rfl) (fun _ _ _ h => h) (Or.inl ⟨by rfl, ?_⟩) ?_ ?_
           rotate_left
           ·intro w'
            go_simp
            with_reducible rfl
           rotate_left
           ·simp only [Act.put, List.setIfInBounds_toArray, List.set_cons_zero, List.set_cons_succ, i64_w, i32_w]
            rfl
           refine pure_ (i := 3) (N := some 40) (v := ?_) (a' := ?_) #[false, true, true, true, false, false] rfl rfl (by kernel_rfl) (fun _ _ _ h => h) (Or.inl ⟨by rfl, ?_⟩) ?_ ?_
           rotate_left
           ·intro w'
            go_simp
            with_reducible rfl
           rotate_left
           ·simp only [Act.put, List.setIfInBounds_toArray, List.set_cons_zero, List.set_cons_succ, i64_w, i32_w]
            rfl
           refine take_ (i := 0) (N := some 37) (v := ?_) (a' := ?_) #[true, true, true, true, false, false] rfl rfl (by kernel_rfl) (fun _ _ _ h => h) (Or.inl ⟨by rfl, ?_⟩) hHeld ?_ ?_
           rotate_left
           ·rintro w' ⟨s0, s1, s2, s3⟩
            go_simp
            with_reducible rfl
           rotate_left
           ·simp only [Act.put, List.setIfInBounds_toArray, List.set_cons_zero, List.set_cons_succ, i64_w, i32_w]
            rfl
           refine take_ (i := 4) (N := some 41) (v := ?_) (a' := ?_) #[true, true, true, true, true, false] rfl rfl (by kernel_rfl) (fun _ _ _ h => h) (Or.inl ⟨by rfl, ?_⟩) hHeld ?_ ?_
           rotate_left
           ·rintro w' ⟨s0, s1, s2, s3⟩
            go_simp
            with_reducible rfl
           rotate_left
           ·simp only [Act.put, List.setIfInBounds_toArray, List.set_cons_zero, List.set_cons_succ, i64_w, i32_w]
            rfl
           refine one_ (i := 5) (N := some 42) #[true, true, true, true, true, true] rfl rfl (by kernel_rfl) (by decide) (fun K hK => ?_)
           refine goes_ Tryd.func37 (by kernel_rfl) rfl #[.agg #[.string a1_0, .string a1_1], .agg #[.string ((rd_T34 l0 x7_2).f0), .string ((rd_T34 l0 x7_2).f1)]] (by rfl) rfl rfl (by (try simp only [List.map_toArray, List.map_cons, List.map_nil]); first | done | rfl | (simp only [List.length_drop, List.length_take]; rfl)) ?_
           with_reducible refine (graftwoodref05_Less.calls k2 a1_0 a1_1 ((rd_T34 l0 x7_2).f0) ((rd_T34 l0 x7_2).f1) true _ A19.out).mono ?_
           rintro e w23 ⟨rfl, hb⟩
           refine ⟨_, rfl, ?_⟩
           have n0_ := Aside0.mk (Kd.R_below (by (with_reducible repeat (first | apply Kd.R_alloc | apply Kd.R_drewN | apply Kd.R_drew)); exact HO_5.out) hb)
           have n1_ := Aside0.mk (blk_below (g := gb341) (o := .cells #[.string a1_0, .string a1_1] 34 (0, 0)) (by (with_reducible repeat (first | refine blk_drewN ?_ _ | refine blk_drew ?_ | refine blk_alloc ?_ _)); exact BK341.out) hb)
           have n2_ := Aside0.mk (below_step (by repeat (first | (with_reducible first | exact HB.out | apply below_alloc | apply pw_below_drewN | apply below_drew1 | refine below_set ?_ GE341.out) | exact HB.out)) hb)
           clear HO_5 BK341 HB
           have HO_5 := n0_
           have BK341 := n1_
           have HB := n2_
           clear n0_ n1_ n2_
           (try clear hb)
           (try clear hb2)
           (try clear hk)
           (try clear hi)
           refine hK.out _ _ ⟨(blk_cell BK341.out 0).trans rfl, (blk_cell BK341.out 1).trans rfl, ((HB.out.cell (World.block_lt_of_cell? w _ hw351_0)).trans hw351_0), ((HB.out.cell (World.block_lt_of_cell? w _ hw351_1)).trans hw351_1)⟩ (fun hHeld => ?_)
           clear hK K
           refine norm_ (a' := ?_) ?_ ?_
           rotate_left
           ·show Act.put _ (some 42) _ = _
            simp only [Act.put, List.setIfInBounds_toArray, List.set_cons_zero, List.set_cons_succ, i64_w, i32_w]
            rfl
           refine done_ (by kernel_rfl) ?_
           have p353 : 0 ≤ (x7_2 : Int) := of_decide_eq_true (by first | (with_reducible assumption) | assumption)
           have q353 : x7_2 < (l0.length : Int) := of_decide_eq_true (by first | (with_reducible assumption) | assumption)
           obtain ⟨ad353, e353, hx353_0, hx353_1⟩ := at_T34 HR0.out x7_2 p353 q353
           obtain rfl : ad351 = ad353 := (by injection e353)
           replace hx353_0 := (HB.out.cell (World.block_lt_of_cell? w _ hx353_0)).trans hx353_0
           replace hx353_1 := (HB.out.cell (World.block_lt_of_cell? w _ hx353_1)).trans hx353_1
           replace p353 := eq_true p353
           replace q353 := eq_true q353
           try go_wp2_with (first | ((with_reducible refine gate_builtin (b := .append) (xs := #[.tmp 43, .tmp 48]) rfl ?_); at_builtin; refine Kd.R_append k34 (w0 := w) w.heap.size rfl (.tmp 43) (.tmp 48) 22 34 (.agg #[(.string ⟨#[]⟩), (.string ⟨#[]⟩)]) 32 rfl Tryd.underlying22 info34 rfl (by decide) (by omega) u5 x5_2 (⟨(rd_T34 l0 x7_2).f0, (rd_T34 l0 x7_2).f1⟩ : S34) [.string ((rd_T34 l0 x7_2).f0), .string ((rd_T34 l0 x7_2).f1)] (fun k_ => k_ ≠ gb341) (fun _ => False) rfl rfl ?aP (fun _ hk => hk.elim) ?aF ?aO ?aB ?aS ?aL ?_; (case aP => exact k34_mkM _ _ _ (⟨(rd_T34 l0 x7_2).f0, (rd_T34 l0 x7_2).f1⟩ : S34)); (case aB => exact (by repeat (first | (with_reducible first | exact HB.out | apply below_alloc | apply pw_below_drewN | apply below_drew1 | refine below_set ?_ GE341.out) | exact HB.out))); (case aF => exact (fun k_ hk => Kd.freshB (g := gb341) (o := .cells #[.string a1_0, .string a1_1] 34 (0, 0)) (by (with_reducible repeat (first | refine blk_drewN ?_ _ | refine blk_drew ?_ | refine blk_alloc ?_ _)); exact BK341.out) k_ hk)); (case aO => exact (by (with_reducible repeat (first | apply Kd.R_alloc | apply Kd.R_drewN | apply Kd.R_drew)); exact HO_5.out)); (case aS => exact (below_size (by repeat (first | (with_reducible first | exact HB.out | apply below_alloc | apply pw_below_drewN | apply below_drew1 | refine below_set ?_ GE341.out) | exact HB.out)))); (case aL => have := LMc21.out; omega); intro v355 w24 ho hb hg hat; rw [← Ny354.out] at ho; have n0_ := Aside0.mk (blk_grown (g := gb341) (o := .cells #[.string a1_0, .string a1_1] 34 (0, 0)) (by (with_reducible repeat (first | refine blk_drewN ?_ _ | refine blk_drew ?_ | refine blk_alloc ?_ _)); exact BK341.out) hg (Kd.R_away HO_5.out (fun _ hk => hk))); have n1_ := Aside0.mk (hb); have n2_ := Aside0.mk (ho); clear BK341; clear HB; clear HO_5; have BK341 := n0_; have HB := n1_; have HO356 := n2_; clear n0_ n1_ n2_; clear ho hb hg hat))
           go_roundg k2
           case measure => have := HK1.out; have := HK2.out; omega
           case rel => exact ⟨(y354), (wrap64 (x7_2 + 1)), (by first | rfl | (simp; done) | (simp [*]; done)), H', ⟨by have := HK1.out; have := HK2.out; omega⟩, ⟨by (with_reducible repeat (first | apply Kd.R_alloc | apply Kd.R_drewN | apply Kd.R_drew)); exact HO356.out⟩, ⟨by (with_reducible repeat (first | refine blk_drewN ?_ _ | refine blk_drew ?_ | refine blk_alloc ?_ _)); exact BK341.out⟩, ⟨by repeat (first | (with_reducible first | exact HB.out | apply below_alloc | apply pw_below_drewN | apply below_drew1 | refine below_set ?_ GE341.out) | exact HB.out)⟩⟩
          ·rw [if_neg c21] at H
           exact absurd H (by simp)
         ·replace c20 := Bool.eq_false_iff.mpr c20
          subst c20
          have H1 : (graftwoodref05_With.l1 k2 l0 x5_2 (wrap64 (x7_2 + 1)) a1_0 a1_1) = some r := by rw [if_neg (show ¬ (false = true) by decide)] at H; exact H
          clear H
          have H := H1
          clear H1
          have H' := Aside0.mk H
          clear H
          try go_wp2
          have n0_ := Aside0.mk (Kd.R_drew HO_5.out)
          have n1_ := Aside0.mk (blk_drew BK341.out)
          have n2_ := Aside0.mk (below_drew1 HB.out)
          clear HO_5 BK341 HB
          have HO_5 := n0_
          have BK341 := n1_
          have HB := n2_
          clear n0_ n1_ n2_
          have p351 : 0 ≤ (x7_2 : Int) := of_decide_eq_true (by first | (with_reducible assumption) | assumption)
          have q351 : x7_2 < (l0.length : Int) := of_decide_eq_true (by first | (with_reducible assumption) | assumption)
          obtain ⟨ad351, e351, hx351_0, hx351_1⟩ := at_T34 HR0.out x7_2 p351 q351
          have hw351_1 := hx351_1
          have hw351_0 := hx351_0
          cases e351
          replace hx351_0 := (HB.out.cell (World.block_lt_of_cell? w _ hx351_0)).trans hx351_0
          replace hx351_1 := (HB.out.cell (World.block_lt_of_cell? w _ hx351_1)).trans hx351_1
          replace p351 := eq_true p351
          replace q351 := eq_true q351
          refine start_ (n := 6) (S := fun w' => w'.cell? ⟨gb341, 0, none⟩ = some (.string a1_0) ∧ w'.cell? ⟨gb341, 1, none⟩ = some (.string a1_1) ∧ w'.cell? (ad351.add ((x7_2).toNat * 2)) = some (.string ((rd_T34 l0 x7_2).f0)) ∧ w'.cell? ⟨(ad351.add ((x7_2).toNat * 2)).block, (ad351.add ((x7_2).toNat * 2)).off + 1, none⟩ = some (.string ((rd_T34 l0 x7_2).f1))) (ds := []) #[false, false, false, false, false, false] (by kernel_rfl) rfl rfl ⟨(blk_cell BK341.out 0).trans rfl, (blk_cell BK341.out 1).trans rfl, ((HB.out.cell (World.block_lt_of_cell? w _ hw351_0)).trans hw351_0), ((HB.out.cell (World.block_lt_of_cell? w _ hw351_1)).trans hw351_1)⟩ (fun hHeld => ?_)
          generalize wr.drew = w25 at HO_5 BK341 HB hx351_0 hx351_1 hHeld ⊢
          refine pure_ (i := 1) (N := some 38) (v := ?_) (a' := ?_) #[false, true, false, false, false, false] rfl rfl (by kernel_rfl) (fun _ _ _ h => h) (Or.inl ⟨by rfl, ?_⟩) ?_ ?_
          rotate_left
          ·intro w'
           go_simp
           with_reducible rfl
          rotate_left
          ·simp only [Act.put, List.setIfInBounds_toArray, List.set_cons_zero, List.set_cons_succ, i64_w, i32_w]
           rfl
          refine pure_ (i := 2) (N := some 39) (v := ?_) (a' := ?_) #[false, true, true, false, false, false] rfl rfl (by kernel_rfl) (fun _ _ _ h => h) (Or.inl ⟨by rfl, ?_⟩) ?_ ?_
          rotate_left
          ·intro w'
           go_simp
           with_reducible rfl
          rotate_left
          ·simp only [Act.put, List.setIfInBounds_toArray, List.set_cons_zero, List.set_cons_succ, i64_w, i32_w]
           rfl
          refine pure_ (i := 3) (N := some 40) (v := ?_) (a' := ?_) #[false, true, true, true, false, false] rfl rfl (by kernel_rfl) (fun _ _ _ h => h) (Or.inl ⟨by rfl, ?_⟩) ?_ ?_
          rotate_left
          ·intro w'
           go_simp
           with_reducible rfl
          rotate_left
          ·simp only [Act.put, List.setIfInBounds_toArray, List.set_cons_zero, List.set_cons_succ, i64_w, i32_w]
           rfl
          refine take_ (i := 0) (N := some 37) (v := ?_) (a' := ?_) #[true, true, true, true, false, false] rfl rfl (by kernel_rfl) (fun _ _ _ h => h) (Or.inl ⟨by rfl, ?_⟩) hHeld ?_ ?_
          rotate_left
          ·rintro w' ⟨s0, s1, s2, s3⟩
           go_simp
           with_reducible rfl
          rotate_left
          ·simp only [Act.put, List.setIfInBounds_toArray, List.set_cons_zero, List.set_cons_succ, i64_w, i32_w]
           rfl
          refine take_ (i := 4) (N := some 41) (v := ?_) (a' := ?_) #[true, true, true, true, true, false] rfl rfl (by kernel_rfl) (fun _ _ _ h => h) (Or.inl ⟨by rfl, ?_⟩) hHeld ?_ ?_
          rotate_left
          ·rintro w' ⟨s0, s1, s2, s3⟩
           go_simp
           with_reducible rfl
          rotate_left
          ·simp only [Act.put, List.setIfInBounds_toArray, List.set_cons_zero, List.set_cons_succ, i64_w, i32_w]
           rfl
          refine one_ (i := 5) (N := some 42) #[true, true, true, true, true, true] rfl rfl (by kernel_rfl) (by decide) (fun K hK => ?_)
          refine goes_ Tryd.func37 (by kernel_rfl) rfl #[.agg #[.string a1_0, .string a1_1], .agg #[.string ((rd_T34 l0 x7_2).f0), .string ((rd_T34 l0 x7_2).f1)]] (by rfl) rfl rfl (by (try simp only [List.map_toArray, List.map_cons, List.map_nil]); first | done | rfl | (simp only [List.length_drop, List.length_take]; rfl)) ?_
          with_reducible refine (graftwoodref05_Less.calls k2 a1_0 a1_1 ((rd_T34 l0 x7_2).f0) ((rd_T34 l0 x7_2).f1) false _ A19.out).mono ?_
          rintro e w26 ⟨rfl, hb⟩
          refine ⟨_, rfl, ?_⟩
          have n0_ := Aside0.mk (Kd.R_below (by (with_reducible repeat (first | apply Kd.R_alloc | apply Kd.R_drewN | apply Kd.R_drew)); exact HO_5.out) hb)
          have n1_ := Aside0.mk (blk_below (g := gb341) (o := .cells #[.string a1_0, .string a1_1] 34 (0, 0)) (by (with_reducible repeat (first | refine blk_drewN ?_ _ | refine blk_drew ?_ | refine blk_alloc ?_ _)); exact BK341.out) hb)
          have n2_ := Aside0.mk (below_step (by repeat (first | (with_reducible first | exact HB.out | apply below_alloc | apply pw_below_drewN | apply below_drew1 | refine below_set ?_ GE341.out) | exact HB.out)) hb)
          clear HO_5 BK341 HB
          have HO_5 := n0_
          have BK341 := n1_
          have HB := n2_
          clear n0_ n1_ n2_
          (try clear hb)
          (try clear hb2)
          (try clear hk)
          (try clear hi)
          refine hK.out _ _ ⟨(blk_cell BK341.out 0).trans rfl, (blk_cell BK341.out 1).trans rfl, ((HB.out.cell (World.block_lt_of_cell? w _ hw351_0)).trans hw351_0), ((HB.out.cell (World.block_lt_of_cell? w _ hw351_1)).trans hw351_1)⟩ (fun hHeld => ?_)
          clear hK K
          refine norm_ (a' := ?_) ?_ ?_
          rotate_left
          ·show Act.put _ (some 42) _ = _
           simp only [Act.put, List.setIfInBounds_toArray, List.set_cons_zero, List.set_cons_succ, i64_w, i32_w]
           rfl
          refine done_ (by kernel_rfl) ?_
          try go_wp2
          go_roundg k2
          case measure => have := HK1.out; have := HK2.out; omega
          case rel => exact ⟨(x5_2), (wrap64 (x7_2 + 1)), (by first | rfl | (simp; done) | (simp [*]; done)), H', ⟨by have := HK1.out; have := HK2.out; omega⟩, ⟨by (with_reducible repeat (first | apply Kd.R_alloc | apply Kd.R_drewN | apply Kd.R_drew)); exact HO_5.out⟩, ⟨by (with_reducible repeat (first | refine blk_drewN ?_ _ | refine blk_drew ?_ | refine blk_alloc ?_ _)); exact BK341.out⟩, ⟨by repeat (first | (with_reducible first | exact HB.out | apply below_alloc | apply pw_below_drewN | apply below_drew1 | refine below_set ?_ GE341.out) | exact HB.out)⟩⟩
        ·rw [if_neg c18] at H
         exact absurd H (by simp)
       ·rw [if_neg c17] at H
        have c17b0 : decide (x7_2 < (l0.length : Int)) = false := decide_eq_false c17
        clear c17
        obtain rfl := Option.some.inj H
        go_wp2
        go_ret
        exact ⟨_, by first | rfl | (simp [errW_none, errW_some] <;> rfl) | (simp [*, errW_none, errW_some] <;> rfl), by (with_reducible repeat (first | apply Kd.R_alloc | apply Kd.R_drewN | apply Kd.R_drew)); exact Kd.R_mono HO_5.out (fun _ hk => trivial), by repeat (first | (with_reducible first | exact HB.out | apply below_alloc | apply pw_below_drewN | apply below_drew1 | refine below_set ?_ GE341.out) | exact HB.out)⟩
    ·rw [if_neg c14] at H
     exact absurd H (by simp)

end Go.Proofs.YtjneghnknfhboaaDoor.P
