-- Written by this project's own program (wip/tools/hp.py), driving the kit's print; hand texts among it. Not trusted: Lean checks it.
import Derived.Test.YtjneghnknfhboaaDoorP0
import Derived.Test.YtjneghnknfhboaaDoorP2
import Derived.Test.YtjneghnknfhboaaDoorP17
import Derived.Test.YtjneghnknfhboaaDoorP23
import Derived.Test.YtjneghnknfhboaaDoorP24
import Derived.Test.YtjneghnknfhboaaDoorP25
namespace Go.Proofs.YtjneghnknfhboaaDoor.P
open Go.RowKit Go.Proofs.YtjneghnknfhboaaDoorW.PrintWords Go.Proofs.YtjneghnknfhboaaDoorW.PrintLast Go.Proofs.YtjneghnknfhboaaDoorW.PrintMore
attribute [local go_sem] max2_int min2_int max_two min_two max_three min_three max_four min_four   -- for this text's walks alone
set_option linter.unusedVariables false
set_option linter.unusedSimpArgs false

/-! ### graftwoodlaw10_InternBack: function 5 -/
mutual
def graftwoodlaw10_InternBack.l0 : Nat → List Int → Int → List (S34) → Option (Bool)
  | 0, _, _, _ => none
  | k + 1, x3, x4, x381000 => if x4 < (x381000.length : Int) then (if x3.length < 17592186044416 then (graftwoodlaw10_InternBack.l0 k (x3 ++ [x4]) (wrap64 (x4 + 1)) x381000) else (none)) else ((intern_At.f k x381000 x3).bind fun bt389 => ((intern_All.f k ([] : List (S34)) bt389.1).bind fun bt393 => (if bt389.2 = 0 then (if bt393.2.2 = 0 then ((graftwoodref05_Same.f k bt389.1 x381000).bind fun t401 => (if t401 = true then ((graftwoodlaw10_same.f k bt393.2.1 x381000).bind fun t402 => (if t402 = true then (graftwoodlaw10_InternBack.j1 k x3 bt393.1 ((bt393.1.length : Int) != (x3.length : Int))) else (graftwoodlaw10_InternBack.j1 k x3 bt393.1 true))) else (graftwoodlaw10_InternBack.j1 k x3 bt393.1 true))) else (graftwoodlaw10_InternBack.j1 k x3 bt393.1 true)) else (graftwoodlaw10_InternBack.j1 k x3 bt393.1 true))))
def graftwoodlaw10_InternBack.j1 : Nat → List Int → List Int → Bool → Option (Bool)
  | 0, _, _, _ => none
  | k + 1, x3, x7, x66 => if x66 = true then (some false) else (graftwoodlaw10_InternBack.l1 k x3 x7 0)
def graftwoodlaw10_InternBack.l1 : Nat → List Int → List Int → Int → Option (Bool)
  | 0, _, _, _ => none
  | k + 1, x3, x7, x10 => if x10 < (x3.length : Int) then (if 0 ≤ x10 then (if x10 < (x7.length : Int) then (if (rd x7 x10) = x10 then (graftwoodlaw10_InternBack.l1 k x3 x7 (wrap64 (x10 + 1))) else (some false)) else (none)) else (none)) else ((graftwoodlaw10_awake.f k).bind fun t404 => (some t404))
end
def graftwoodlaw10_InternBack.f (k : Nat) (l0_0 : List (S34)) : Option (Bool) := (graftwoodlaw10_Few.f k l0_0).bind fun t381 => ((intern_Check.f k t381).bind fun t384 => (if t384 = 0 then (graftwoodlaw10_InternBack.l0 k ([] : List Int) 0 t381) else ((graftwoodlaw10_awake.f k).bind fun t385 => (some t385))))
theorem graftwoodlaw10_InternBack.mono_l : ∀ k, (∀ y0 y1 y2, LeO (graftwoodlaw10_InternBack.l0 k y0 y1 y2) (graftwoodlaw10_InternBack.l0 (k + 1) y0 y1 y2)) ∧ (∀ y0 y1 y2, LeO (graftwoodlaw10_InternBack.j1 k y0 y1 y2) (graftwoodlaw10_InternBack.j1 (k + 1) y0 y1 y2)) ∧ (∀ y0 y1 y2, LeO (graftwoodlaw10_InternBack.l1 k y0 y1 y2) (graftwoodlaw10_InternBack.l1 (k + 1) y0 y1 y2))
  | 0 => ⟨fun _ _ _ r h => by simp [graftwoodlaw10_InternBack.l0] at h, fun _ _ _ r h => by simp [graftwoodlaw10_InternBack.j1] at h, fun _ _ _ r h => by simp [graftwoodlaw10_InternBack.l1] at h⟩
  | k + 1 => by
    obtain ⟨ih0, ih1, ih2⟩ := graftwoodlaw10_InternBack.mono_l k
    refine ⟨?_, ?_, ?_⟩
    · intro y0 y1 y2
      unfold graftwoodlaw10_InternBack.l0
      repeat' first
      | (with_reducible exact ih0 _ _ _)
      | (with_reducible exact ih1 _ _ _)
      | (with_reducible exact ih2 _ _ _)
      | (with_reducible exact graftwoodlaw10_Few.mono _ _)
      | (with_reducible exact graftwoodlaw10_awake.mono _)
      | (with_reducible exact graftwoodlaw10_same.mono _ _ _)
      | (with_reducible exact graftwoodref05_Same.mono _ _ _)
      | (with_reducible exact intern_All.mono _ _ _)
      | (with_reducible exact intern_At.mono _ _ _)
      | (with_reducible exact intern_Check.mono _ _)
      | (with_reducible exact LeO.refl _)
      | (with_reducible exact LeO.none _)
      | (with_reducible refine LeO.ite ?_ ?_)
      | (with_reducible refine LeO.bind ?_ (fun _ => ?_))
      | exact ih0 _ _ _
      | exact ih1 _ _ _
      | exact ih2 _ _ _
      | exact graftwoodlaw10_Few.mono _ _
      | exact graftwoodlaw10_awake.mono _
      | exact graftwoodlaw10_same.mono _ _ _
      | exact graftwoodref05_Same.mono _ _ _
      | exact intern_All.mono _ _ _
      | exact intern_At.mono _ _ _
      | exact intern_Check.mono _ _
      | exact LeO.none _
      | refine LeO.ite ?_ ?_
      | refine LeO.bind ?_ (fun _ => ?_)
    · intro y0 y1 y2
      unfold graftwoodlaw10_InternBack.j1
      repeat' first
      | (with_reducible exact ih0 _ _ _)
      | (with_reducible exact ih1 _ _ _)
      | (with_reducible exact ih2 _ _ _)
      | (with_reducible exact graftwoodlaw10_Few.mono _ _)
      | (with_reducible exact graftwoodlaw10_awake.mono _)
      | (with_reducible exact graftwoodlaw10_same.mono _ _ _)
      | (with_reducible exact graftwoodref05_Same.mono _ _ _)
      | (with_reducible exact intern_All.mono _ _ _)
      | (with_reducible exact intern_At.mono _ _ _)
      | (with_reducible exact intern_Check.mono _ _)
      | (with_reducible exact LeO.refl _)
      | (with_reducible exact LeO.none _)
      | (with_reducible refine LeO.ite ?_ ?_)
      | (with_reducible refine LeO.bind ?_ (fun _ => ?_))
      | exact ih0 _ _ _
      | exact ih1 _ _ _
      | exact ih2 _ _ _
      | exact graftwoodlaw10_Few.mono _ _
      | exact graftwoodlaw10_awake.mono _
      | exact graftwoodlaw10_same.mono _ _ _
      | exact graftwoodref05_Same.mono _ _ _
      | exact intern_All.mono _ _ _
      | exact intern_At.mono _ _ _
      | exact intern_Check.mono _ _
      | exact LeO.none _
      | refine LeO.ite ?_ ?_
      | refine LeO.bind ?_ (fun _ => ?_)
    · intro y0 y1 y2
      unfold graftwoodlaw10_InternBack.l1
      repeat' first
      | (with_reducible exact ih0 _ _ _)
      | (with_reducible exact ih1 _ _ _)
      | (with_reducible exact ih2 _ _ _)
      | (with_reducible exact graftwoodlaw10_Few.mono _ _)
      | (with_reducible exact graftwoodlaw10_awake.mono _)
      | (with_reducible exact graftwoodlaw10_same.mono _ _ _)
      | (with_reducible exact graftwoodref05_Same.mono _ _ _)
      | (with_reducible exact intern_All.mono _ _ _)
      | (with_reducible exact intern_At.mono _ _ _)
      | (with_reducible exact intern_Check.mono _ _)
      | (with_reducible exact LeO.refl _)
      | (with_reducible exact LeO.none _)
      | (with_reducible refine LeO.ite ?_ ?_)
      | (with_reducible refine LeO.bind ?_ (fun _ => ?_))
      | exact ih0 _ _ _
      | exact ih1 _ _ _
      | exact ih2 _ _ _
      | exact graftwoodlaw10_Few.mono _ _
      | exact graftwoodlaw10_awake.mono _
      | exact graftwoodlaw10_same.mono _ _ _
      | exact graftwoodref05_Same.mono _ _ _
      | exact intern_All.mono _ _ _
      | exact intern_At.mono _ _ _
      | exact intern_Check.mono _ _
      | exact LeO.none _
      | refine LeO.ite ?_ ?_
      | refine LeO.bind ?_ (fun _ => ?_)
theorem graftwoodlaw10_InternBack.mono : ∀ a0 k, LeO (graftwoodlaw10_InternBack.f k a0) (graftwoodlaw10_InternBack.f (k + 1) a0) := by
  intro a0 k
  obtain ⟨ih0, ih1, ih2⟩ := graftwoodlaw10_InternBack.mono_l k
  unfold graftwoodlaw10_InternBack.f
  repeat' first
      | (with_reducible exact ih0 _ _ _)
      | (with_reducible exact ih1 _ _ _)
      | (with_reducible exact ih2 _ _ _)
      | (with_reducible exact graftwoodlaw10_Few.mono _ _)
      | (with_reducible exact graftwoodlaw10_awake.mono _)
      | (with_reducible exact graftwoodlaw10_same.mono _ _ _)
      | (with_reducible exact graftwoodref05_Same.mono _ _ _)
      | (with_reducible exact intern_All.mono _ _ _)
      | (with_reducible exact intern_At.mono _ _ _)
      | (with_reducible exact intern_Check.mono _ _)
      | (with_reducible exact LeO.refl _)
      | (with_reducible exact LeO.none _)
      | (with_reducible refine LeO.ite ?_ ?_)
      | (with_reducible refine LeO.bind ?_ (fun _ => ?_))
      | exact ih0 _ _ _
      | exact ih1 _ _ _
      | exact ih2 _ _ _
      | exact graftwoodlaw10_Few.mono _ _
      | exact graftwoodlaw10_awake.mono _
      | exact graftwoodlaw10_same.mono _ _ _
      | exact graftwoodref05_Same.mono _ _ _
      | exact intern_All.mono _ _ _
      | exact intern_At.mono _ _ _
      | exact intern_Check.mono _ _
      | exact LeO.none _
      | refine LeO.ite ?_ ?_
      | refine LeO.bind ?_ (fun _ => ?_)
set_option maxHeartbeats 8000000 in
set_option maxRecDepth 100000 in
theorem graftwoodlaw10_InternBack.calls (k : Nat) (A0_0 : Option Addr) (c0_0 : Nat) (l0_0 : List (S34)) (r : Bool) (w : World) (hr0_0 : Kd.C k34 w A0_0 l0_0.length l0_0) (hc0_0 : l0_0.length ≤ c0_0) (h : graftwoodlaw10_InternBack.f k l0_0 = some r) :
    Calls Tryd.prog 5 #[.agg #[.slice A0_0 l0_0.length c0_0]] w fun e w' => e = .returned (.bool r) ∧ Below w.heap.size w w' := by
  have hu24 := Tryd.underlying24
  have HR0_0 := Aside0.mk hr0_0
  have HC0_0 := Aside0.mk hc0_0
  clear hr0_0 hc0_0
  have HB := Aside0.mk (Below.refl w.heap.size w)
  have H : ((graftwoodlaw10_Few.f k l0_0).bind fun t381 => ((intern_Check.f k t381).bind fun t384 => (if t384 = 0 then (graftwoodlaw10_InternBack.l0 k ([] : List Int) 0 t381) else ((graftwoodlaw10_awake.f k).bind fun t385 => (some t385))))) = some r := h
  clear h
  replace H := Option.bind_eq_some_iff.mp H
  obtain ⟨t381, A20, H⟩ := H
  replace H : ((intern_Check.f k t381).bind fun t384 => (if t384 = 0 then (graftwoodlaw10_InternBack.l0 k ([] : List Int) 0 t381) else ((graftwoodlaw10_awake.f k).bind fun t385 => (some t385)))) = some r := H
  have A2 := Aside0.mk A20
  clear A20
  replace H := Option.bind_eq_some_iff.mp H
  obtain ⟨t384, A30, H⟩ := H
  replace H : (if t384 = 0 then (graftwoodlaw10_InternBack.l0 k ([] : List Int) 0 t381) else ((graftwoodlaw10_awake.f k).bind fun t385 => (some t385))) = some r := H
  have A3 := Aside0.mk A30
  clear A30
  by_cases c4 : t384 = 0
  · rw [if_pos c4] at H
    have c4b0 : (t384 == 0) = true := beq_iff_eq.mpr c4
    have c4b1 : (t384 != 0) = false := bne_eq_false_iff_eq.mpr c4
    clear c4
    have H' := Aside0.mk H
    clear H
    go_enter Tryd.func5, Tryd.ntmps5
    go_wp2_with (first | ((with_reducible refine gate_dst (N := 1) rfl ?_); (try (refine gate_guard (by rfl) ?_; dsimp only)); refine box_event ?hg (N := 1) ?hd (cs := #[.slice A0_0 l0_0.length c0_0]) (t := 24) ?hr ?_; (case hd => rfl); (case hg => rfl); (case hr => first | (go_simp; done) | (go_simp; rfl)); intro gb380 hg w5 hbox hb; have n0_ := Aside0.mk (below_step (by repeat (first | (with_reducible first | exact HB.out | apply below_alloc | apply pw_below_drewN | apply below_drew1) | exact HB.out)) hb); have n1_ := Aside0.mk (hbox); have n2_ := Aside0.mk ((by rw [hg]; exact (below_size (by repeat (first | (with_reducible first | exact HB.out | apply below_alloc | apply pw_below_drewN | apply below_drew1) | exact HB.out))) : w.heap.size ≤ gb380)); have n3_ := Aside0.mk ((by rw [hg]; exact (below_size (by repeat (first | (with_reducible first | exact HB.out | apply below_alloc | apply pw_below_drewN | apply below_drew1) | exact HB.out))) : w.heap.size ≤ gb380)); clear HB; have HB := n0_; have BK380 := n1_; have GW380 := n2_; have GE380 := n3_; clear n0_ n1_ n2_ n3_; clear hb hbox hg; have hcz6_0 : w5.cell? ⟨gb380, 0, none⟩ = some (.slice A0_0 l0_0.length c0_0) := (blk_cell BK380.out 0).trans rfl; have hfz6_0 := blk_frozen BK380.out 0) | ((with_reducible refine gate_callee (f := 8) rfl ?_); refine goesL_ (some 12) rfl rfl Tryd.func8 (by kernel_rfl) rfl #[.agg #[.slice A0_0 l0_0.length c0_0]] rfl (by (try simp only [List.map_toArray, List.map_cons, List.map_nil]); first | done | rfl | (simp only [List.length_drop, List.length_take]; rfl)) ?_; (with_reducible refine (graftwoodlaw10_Few.calls k _ _ l0_0 t381 _ ?side1 ?side2 A2.out).mono ?_); (case side1 => repeat (first | exact (Kd.C_below HR0_0.out HB.out) | (with_reducible refine Kd.C_alloc ?_ _) | (with_reducible refine Kd.C_drewN ?_ _) | (with_reducible refine Kd.C_drew ?_))); (case side2 => exact HC0_0.out); rintro e w7 ⟨v382, rfl, ho0, hb⟩; refine ⟨_, rfl, ?_⟩; have n0_ := Aside0.mk (Kd.R_lower ho0 (below_size (by repeat (first | (with_reducible first | exact HB.out | apply below_alloc | apply pw_below_drewN | apply below_drew1 | refine below_set ?_ GE380.out) | exact HB.out)))); have n1_ := Aside0.mk (blk_below (g := gb380) (o := .cells #[.slice A0_0 l0_0.length c0_0] 24 (0, 0)) (by (with_reducible repeat (first | refine blk_drewN ?_ _ | refine blk_drew ?_ | refine blk_alloc ?_ _)); exact BK380.out) hb); have n2_ := Aside0.mk (below_step (by repeat (first | (with_reducible first | exact HB.out | apply below_alloc | apply pw_below_drewN | apply below_drew1 | refine below_set ?_ GE380.out) | exact HB.out)) hb); clear BK380; clear HB; have HO383 := n0_; have BK380 := n1_; have HB := n2_; clear n0_ n1_ n2_; (try clear hb); (try clear hb2); (try clear hk); (try clear hi); (try clear ho0); obtain ⟨Ao8, co8, eo8⟩ := Kd.R_slice HO383.out; subst eo8; have hcz9_0 : w7.cell? ⟨gb380, 0, none⟩ = some (.slice A0_0 l0_0.length c0_0) := (blk_cell BK380.out 0).trans rfl; have hfz9_0 := blk_frozen BK380.out 0) | ((with_reducible refine gate_callee (f := 17) rfl ?_); refine goesL_ (some 14) rfl rfl Tryd.func17 (by kernel_rfl) rfl #[.agg #[.slice Ao8 t381.length co8]] rfl (by (try simp only [List.map_toArray, List.map_cons, List.map_nil]); first | done | rfl | (simp only [List.length_drop, List.length_take]; rfl)) ?_; (with_reducible refine (intern_Check.calls k _ _ t381 t384 _ ?side1 ?side2 A3.out).mono ?_); (case side1 => refine (Kd.R_reads' (e := 34) (base := w.heap.size) (ok := fun k_ => True) (n := t381.length) (c := co8) ?_).2.2; exact (by (with_reducible repeat (first | apply Kd.R_alloc | apply Kd.R_drewN | apply Kd.R_drew)); exact (Kd.R_mono (Kd.R_far (p := ⟨gb380, 0, none⟩) (Kd.R_types HO383.out BK380.out (by decide)) (fun _ hk => hk.2) (.slice Ao8 t381.length co8)) (fun _ h_ => h_.1)))); (case side2 => exact (Kd.R_reads' HO383.out).2.1); rintro e w10 ⟨rfl, hb⟩; refine ⟨_, rfl, ?_⟩; have n0_ := Aside0.mk (Kd.R_below (by (with_reducible repeat (first | apply Kd.R_alloc | apply Kd.R_drewN | apply Kd.R_drew)); exact (Kd.R_mono (Kd.R_far (p := ⟨gb380, 0, none⟩) (Kd.R_types HO383.out BK380.out (by decide)) (fun _ hk => hk.2) (.slice Ao8 t381.length co8)) (fun _ h_ => h_.1))) hb); have n1_ := Aside0.mk (blk_below (g := gb380) (o := .cells #[.slice Ao8 t381.length co8] 24 (0, 0)) (by (with_reducible repeat (first | refine blk_drewN ?_ _ | refine blk_drew ?_ | refine blk_alloc ?_ _)); refine blk_put (cs := #[.slice A0_0 l0_0.length c0_0]) ?_ 0 _ rfl; (with_reducible repeat (first | refine blk_drewN ?_ _ | refine blk_drew ?_ | refine blk_alloc ?_ _)); exact BK380.out) hb); have n2_ := Aside0.mk (below_step (by repeat (first | (with_reducible first | exact HB.out | apply below_alloc | apply pw_below_drewN | apply below_drew1 | refine below_set ?_ GE380.out) | exact HB.out)) hb); clear HO383; clear BK380; clear HB; have HO383 := n0_; have BK380 := n1_; have HB := n2_; clear n0_ n1_ n2_; (try clear hb); (try clear hb2); (try clear hk); (try clear hi)))
    go_loopg [3, 4] k (fun kq v3 v4 w' => ∃ (x3_1 : List Int) (x4_1 : Int), v4 = .int .i64 x4_1 ∧ Aside0 (graftwoodlaw10_InternBack.l0 kq x3_1 x4_1 t381 = some r) ∧ Aside0 (kq ≤ k) ∧ Aside0 (Kd.R (Kd.int .i64) 3 w' w.heap.size (fun _ => True) v3 x3_1) ∧ Aside0 (Kd.R k34 34 w' w.heap.size (fun _ => True) (.slice Ao8 t381.length co8) t381) ∧ Aside0 (w'.heap[gb380]? = some (.cells #[(.slice Ao8 t381.length co8)] 24 (0, 0))) ∧ Aside0 (Below w.heap.size w w'))
    case atStart => exact ⟨(([] : List Int)), (0), (by first | rfl | (simp; done) | (simp [*]; done)), H', ⟨Nat.le_refl _⟩, ⟨by first | exact Kd.R_nil _ _ _ _ _ | exact Kd.N_nil _ _ _ _ _ | exact Kd.V_nil _ _ _ _ _ | exact Kd.Q_nil _ _ _ _ _ | exact Kd.S_nil _ _ _ _ _⟩, ⟨by (with_reducible repeat (first | apply Kd.R_alloc | apply Kd.R_drewN | apply Kd.R_drew)); exact HO383.out⟩, ⟨by (with_reducible repeat (first | refine blk_drewN ?_ _ | refine blk_drew ?_ | refine blk_alloc ?_ _)); exact BK380.out⟩, ⟨by repeat (first | (with_reducible first | exact HB.out | apply below_alloc | apply pw_below_drewN | apply below_drew1 | refine below_set ?_ GE380.out) | exact HB.out)⟩⟩
    case round =>
      clear H'
      try clear c1
      try clear p2
      try clear c4
      try clear c4b0
      try clear c4b1
      try clear c5
      try clear c8
      try clear hcz6_0
      try clear hcz9_0
      try clear hfz6_0
      try clear hfz9_0
      obtain ⟨x3_1, x4_1, rfl, HA, HK1, HO_3, HO_381000, BK380, HB⟩ := hrel
      cases gk with
      | zero => exact absurd HA.out (by simp [graftwoodlaw10_InternBack.l0])
      | succ k1 =>
        have H := HA.out
        clear HA
        simp only [graftwoodlaw10_InternBack.l0] at H
        by_cases c11 : x4_1 < (t381.length : Int)
        · rw [if_pos c11] at H
          have c11b0 : decide (x4_1 < (t381.length : Int)) = true := decide_eq_true c11
          clear c11
          by_cases c12 : x3_1.length < 17592186044416
          · rw [if_pos c12] at H
            have LMc12 := Aside0.mk c12
            clear c12
            obtain ⟨y386, hy386⟩ : ∃ y_ : List Int, y_ = (x3_1 ++ [x4_1]) := ⟨_, rfl⟩
            replace H : (graftwoodlaw10_InternBack.l0 k1 y386 (wrap64 (x4_1 + 1)) t381) = some r := by first | (rw [hy386]; with_reducible exact H) | (have H2_ := (Option.bind_some _ _).symm.trans H; rw [hy386]; with_reducible exact H2_) | (have H2_ := (Option.bind_some _ _).symm.trans H; with_reducible exact H2_) | with_reducible exact H | (rw [hy386]; exact H) | exact H
            have Ny386 := Aside0.mk hy386
            clear hy386
            have H' := Aside0.mk H
            clear H
            have hcz13_0 : wr.cell? ⟨gb380, 0, none⟩ = some (.slice Ao8 t381.length co8) := (blk_cell BK380.out 0).trans rfl
            have hfz13_0 := blk_frozen BK380.out 0
            go_wp2_with (first | ((with_reducible refine gate_builtin (b := .append) (xs := #[.tmp 24, .tmp 26]) rfl ?_); (try (refine gate_guard (by rfl) ?_; dsimp only)); at_builtin; refine Kd.R_append (Kd.int .i64) (w0 := w) w.heap.size rfl (.tmp 24) (.tmp 26) 27 3 (.int .i64 0) 8 rfl Tryd.underlying27 info3 rfl (by decide) (by omega) u3 x3_1 x4_1 [.int .i64 x4_1] (fun _ => True) (fun _ => False) rfl rfl ?aP (fun _ hk => hk.elim) ?aF ?aO ?aB ?aS ?aL ?_; (case aP => exact rfl); (case aB => exact (by repeat (first | (with_reducible first | exact HB.out | apply below_alloc | apply pw_below_drewN | apply below_drew1 | refine below_set ?_ GE380.out) | exact HB.out))); (case aF => exact (fun _ _ => trivial)); (case aO => exact (by (with_reducible repeat (first | apply Kd.R_alloc | apply Kd.R_drewN | apply Kd.R_drew)); exact HO_3.out)); (case aS => exact (below_size (by repeat (first | (with_reducible first | exact HB.out | apply below_alloc | apply pw_below_drewN | apply below_drew1 | refine below_set ?_ GE380.out) | exact HB.out)))); (case aL => have := LMc12.out; omega); intro v387 w14 ho hb hg hat; rw [← Ny386.out] at ho; have n0_ := Aside0.mk (Kd.R_over' (by (with_reducible repeat (first | apply Kd.R_alloc | apply Kd.R_drewN | apply Kd.R_drew)); exact HO_381000.out) (Kd.R_typed (by (with_reducible repeat (first | apply Kd.R_alloc | apply Kd.R_drewN | apply Kd.R_drew)); exact HO_3.out)) (by decide) hg); have n1_ := Aside0.mk (blk_grown (g := gb380) (o := .cells #[.slice Ao8 t381.length co8] 24 (0, 0)) (by (with_reducible repeat (first | refine blk_drewN ?_ _ | refine blk_drew ?_ | refine blk_alloc ?_ _)); exact BK380.out) hg (Kd.R_ne HO_3.out BK380.out (by decide))); have n2_ := Aside0.mk (hb); have n3_ := Aside0.mk (ho); clear HO_381000; clear BK380; clear HB; clear HO_3; have HO_381000 := n0_; have BK380 := n1_; have HB := n2_; have HO388 := n3_; clear n0_ n1_ n2_ n3_; clear ho hb hg hat))
            go_roundg k1
            case measure => have := HK1.out; omega
            case rel => exact ⟨(y386), (wrap64 (x4_1 + 1)), (by first | rfl | (simp; done) | (simp [*]; done)), H', ⟨by have := HK1.out; omega⟩, ⟨by (with_reducible repeat (first | apply Kd.R_alloc | apply Kd.R_drewN | apply Kd.R_drew)); exact HO388.out⟩, ⟨by (with_reducible repeat (first | apply Kd.R_alloc | apply Kd.R_drewN | apply Kd.R_drew)); exact HO_381000.out⟩, ⟨by (with_reducible repeat (first | refine blk_drewN ?_ _ | refine blk_drew ?_ | refine blk_alloc ?_ _)); exact BK380.out⟩, ⟨by repeat (first | (with_reducible first | exact HB.out | apply below_alloc | apply pw_below_drewN | apply below_drew1 | refine below_set ?_ GE380.out) | exact HB.out)⟩⟩
          · rw [if_neg c12] at H
            exact absurd H (by simp)
        · rw [if_neg c11] at H
          have c11b0 : decide (x4_1 < (t381.length : Int)) = false := decide_eq_false c11
          clear c11
          replace H := Option.bind_eq_some_iff.mp H
          obtain ⟨⟨t389, t392⟩, A150, H⟩ := H
          replace H : ((intern_All.f k1 ([] : List (S34)) t389).bind fun bt393 => (if t392 = 0 then (if bt393.2.2 = 0 then ((graftwoodref05_Same.f k1 t389 t381).bind fun t401 => (if t401 = true then ((graftwoodlaw10_same.f k1 bt393.2.1 t381).bind fun t402 => (if t402 = true then (graftwoodlaw10_InternBack.j1 k1 x3_1 bt393.1 ((bt393.1.length : Int) != (x3_1.length : Int))) else (graftwoodlaw10_InternBack.j1 k1 x3_1 bt393.1 true))) else (graftwoodlaw10_InternBack.j1 k1 x3_1 bt393.1 true))) else (graftwoodlaw10_InternBack.j1 k1 x3_1 bt393.1 true)) else (graftwoodlaw10_InternBack.j1 k1 x3_1 bt393.1 true))) = some r := H
          have A15 := Aside0.mk A150
          clear A150
          replace H := Option.bind_eq_some_iff.mp H
          obtain ⟨⟨t393, t396, t399⟩, A160, H⟩ := H
          replace H : (if t392 = 0 then (if t399 = 0 then ((graftwoodref05_Same.f k1 t389 t381).bind fun t401 => (if t401 = true then ((graftwoodlaw10_same.f k1 t396 t381).bind fun t402 => (if t402 = true then (graftwoodlaw10_InternBack.j1 k1 x3_1 t393 ((t393.length : Int) != (x3_1.length : Int))) else (graftwoodlaw10_InternBack.j1 k1 x3_1 t393 true))) else (graftwoodlaw10_InternBack.j1 k1 x3_1 t393 true))) else (graftwoodlaw10_InternBack.j1 k1 x3_1 t393 true)) else (graftwoodlaw10_InternBack.j1 k1 x3_1 t393 true)) = some r := H
          have A16 := Aside0.mk A160
          clear A160
          have HC17 := Aside0.mk H
          clear H
          have hcz18_0 : wr.cell? ⟨gb380, 0, none⟩ = some (.slice Ao8 t381.length co8) := (blk_cell BK380.out 0).trans rfl
          have hfz18_0 := blk_frozen BK380.out 0
          obtain ⟨Ao19, co19, eo19⟩ := Kd.R_slice HO_3.out
          subst eo19
          go_upto_region 11 with (first | ((with_reducible refine gate_callee (f := 18) rfl ?_); refine goesL_ (some 31) rfl rfl Tryd.func18 (by kernel_rfl) rfl #[.agg #[.slice Ao8 t381.length co8], .slice Ao19 x3_1.length co19] rfl (by (try simp only [List.map_toArray, List.map_cons, List.map_nil]); first | done | rfl | (simp only [List.length_drop, List.length_take]; rfl)) ?_; (with_reducible refine (intern_At.calls k1 _ _ t381 _ _ x3_1 t389 t392 _ ?side1 ?side2 ?side3 ?side4 A15.out).mono ?_); (case side1 => repeat (first | exact (Kd.R_reads' HO_381000.out).2.2 | (with_reducible refine Kd.C_alloc ?_ _) | (with_reducible refine Kd.C_drewN ?_ _) | (with_reducible refine Kd.C_drew ?_))); (case side2 => exact (Kd.R_reads' HO_381000.out).2.1); (case side3 => repeat (first | exact (Kd.R_reads' HO_3.out).2.2 | (with_reducible refine Kd.C_alloc ?_ _) | (with_reducible refine Kd.C_drewN ?_ _) | (with_reducible refine Kd.C_drew ?_))); (case side4 => exact (Kd.R_reads' HO_3.out).2.1); rintro e w20 ⟨v390, rfl, ho0, hb⟩; refine ⟨_, rfl, ?_⟩; have n0_ := Aside0.mk (Kd.R_below (by (with_reducible repeat (first | apply Kd.R_alloc | apply Kd.R_drewN | apply Kd.R_drew)); exact HO_3.out) hb); have n1_ := Aside0.mk (Kd.R_elder' (by (with_reducible repeat (first | apply Kd.R_alloc | apply Kd.R_drewN | apply Kd.R_drew)); exact HO_381000.out) (Kd.R_base ho0) hb); have n2_ := Aside0.mk (Kd.R_lower (Kd.R_new' ho0 (Kd.R_lt (by (with_reducible repeat (first | apply Kd.R_alloc | apply Kd.R_drewN | apply Kd.R_drew)); exact HO_381000.out))) (below_size (by repeat (first | (with_reducible first | exact HB.out | apply below_alloc | apply pw_below_drewN | apply below_drew1 | refine below_set ?_ GE380.out) | exact HB.out)))); have n3_ := Aside0.mk (blk_below (g := gb380) (o := .cells #[.slice Ao8 t381.length co8] 24 (0, 0)) (by (with_reducible repeat (first | refine blk_drewN ?_ _ | refine blk_drew ?_ | refine blk_alloc ?_ _)); exact BK380.out) hb); have n4_ := Aside0.mk (below_step (by repeat (first | (with_reducible first | exact HB.out | apply below_alloc | apply pw_below_drewN | apply below_drew1 | refine below_set ?_ GE380.out) | exact HB.out)) hb); clear HO_3; clear HO_381000; clear BK380; clear HB; have HO_3 := n0_; have HO_381000 := n1_; have HO391 := n2_; have BK380 := n3_; have HB := n4_; clear n0_ n1_ n2_ n3_ n4_; (try clear hb); (try clear hb2); (try clear hk); (try clear hi); (try clear ho0); obtain ⟨Ao21, co21, eo21⟩ := Kd.R_slice HO391.out; subst eo21) | ((with_reducible refine gate_callee (f := 10) rfl ?_); refine goesL_ (some 37) rfl rfl Tryd.func10 (by kernel_rfl) rfl #[.agg #[.slice none 0 0], .slice Ao21 t389.length co21] rfl (by (try simp only [List.map_toArray, List.map_cons, List.map_nil]); first | done | rfl | (simp only [List.length_drop, List.length_take]; rfl)) ?_; (refine (intern_All.calls k1 (fun k_ => False) _ _ ([] : List (S34)) _ _ t389 t393 t396 t399 _ ?side1 ?side2 ?side3 A16.out).mono ?_); (case side1 => exact Kd.V_nil _ _ _ _ _); (case side2 => repeat (first | exact (Kd.R_reads' HO391.out).2.2 | (with_reducible refine Kd.C_alloc ?_ _) | (with_reducible refine Kd.C_drewN ?_ _) | (with_reducible refine Kd.C_drew ?_))); (case side3 => exact (Kd.R_reads' HO391.out).2.1); rintro e w22 ⟨v394, v397, rfl, ho0, ho1, hb⟩; refine ⟨_, rfl, ?_⟩; have n0_ := Aside0.mk (Kd.R_elder' (by (with_reducible repeat (first | apply Kd.R_alloc | apply Kd.R_drewN | apply Kd.R_drew)); exact HO_3.out) (Kd.R_base ho0) hb); have n1_ := Aside0.mk (Kd.R_below (by (with_reducible repeat (first | apply Kd.R_alloc | apply Kd.R_drewN | apply Kd.R_drew)); exact HO_381000.out) hb); have n2_ := Aside0.mk (Kd.R_below (by (with_reducible repeat (first | apply Kd.R_alloc | apply Kd.R_drewN | apply Kd.R_drew)); exact HO391.out) hb); have n3_ := Aside0.mk (Kd.R_lower (Kd.R_new' (Kd.R_mono (ok' := fun k_ => True) ho0 (fun _ hk_ => trivial)) (Kd.R_lt (by (with_reducible repeat (first | apply Kd.R_alloc | apply Kd.R_drewN | apply Kd.R_drew)); exact HO_3.out))) (below_size (by repeat (first | (with_reducible first | exact HB.out | apply below_alloc | apply pw_below_drewN | apply below_drew1 | refine below_set ?_ GE380.out) | exact HB.out)))); have n4_ := Aside0.mk (Kd.V_lower (Kd.V_mono (ok' := fun k_ => some k_ ≠ (v394 : Value).ownBlock ∧ some k_ ≠ (.slice Ao19 x3_1.length co19 : Value).ownBlock ∧ some k_ ≠ (.slice Ao8 t381.length co8 : Value).ownBlock ∧ some k_ ≠ (.slice Ao21 t389.length co21 : Value).ownBlock ∧ k_ ≠ gb380) ho1 (fun k_ hk_ => ⟨hk_.2, Or.elim hk_.1 (fun hs_ => (hs_).elim) (fun hn_ => (Kd.fresh' (Kd.R_lt (by (with_reducible repeat (first | apply Kd.R_alloc | apply Kd.R_drewN | apply Kd.R_drew)); exact HO_3.out)) k_ hn_)), Or.elim hk_.1 (fun hs_ => (hs_).elim) (fun hn_ => (Kd.fresh' (Kd.R_lt (by (with_reducible repeat (first | apply Kd.R_alloc | apply Kd.R_drewN | apply Kd.R_drew)); exact HO_381000.out)) k_ hn_)), Or.elim hk_.1 (fun hs_ => (hs_).elim) (fun hn_ => (Kd.fresh' (Kd.R_lt (by (with_reducible repeat (first | apply Kd.R_alloc | apply Kd.R_drewN | apply Kd.R_drew)); exact HO391.out)) k_ hn_)), Or.elim hk_.1 (fun hs_ => (hs_).elim) (fun hn_ => (Kd.freshB (g := gb380) (o := .cells #[.slice Ao8 t381.length co8] 24 (0, 0)) (by (with_reducible repeat (first | refine blk_drewN ?_ _ | refine blk_drew ?_ | refine blk_alloc ?_ _)); exact BK380.out) k_ hn_))⟩)) (below_size (by repeat (first | (with_reducible first | exact HB.out | apply below_alloc | apply pw_below_drewN | apply below_drew1 | refine below_set ?_ GE380.out) | exact HB.out)))); have n5_ := Aside0.mk (blk_below (g := gb380) (o := .cells #[.slice Ao8 t381.length co8] 24 (0, 0)) (by (with_reducible repeat (first | refine blk_drewN ?_ _ | refine blk_drew ?_ | refine blk_alloc ?_ _)); exact BK380.out) hb); have n6_ := Aside0.mk (below_step (by repeat (first | (with_reducible first | exact HB.out | apply below_alloc | apply pw_below_drewN | apply below_drew1 | refine below_set ?_ GE380.out) | exact HB.out)) hb); clear HO_3; clear HO_381000; clear HO391; clear BK380; clear HB; have HO_3 := n0_; have HO_381000 := n1_; have HO391 := n2_; have HO395 := n3_; have HO398 := n4_; have BK380 := n5_; have HB := n6_; clear n0_ n1_ n2_ n3_ n4_ n5_ n6_; (try clear hb); (try clear hb2); (try clear hk); (try clear hi); (try clear ho0); (try clear ho1)) | ((with_reducible refine gate_dst (N := 8) rfl ?_); (try (refine gate_guard (by rfl) ?_; dsimp only)); refine box_event ?hg (N := 8) ?hd (cs := #[.slice none 0 0]) (t := 24) ?hr ?_; (case hd => rfl); (case hg => rfl); (case hr => first | (go_simp; done) | (go_simp; rfl)); intro gb400 hg w23 hbox hb; have n0_ := Aside0.mk (Kd.R_below (by (with_reducible repeat (first | apply Kd.R_alloc | apply Kd.R_drewN | apply Kd.R_drew)); exact HO_3.out) hb); have n1_ := Aside0.mk (Kd.R_below (by (with_reducible repeat (first | apply Kd.R_alloc | apply Kd.R_drewN | apply Kd.R_drew)); exact HO_381000.out) hb); have n2_ := Aside0.mk (Kd.R_below (by (with_reducible repeat (first | apply Kd.R_alloc | apply Kd.R_drewN | apply Kd.R_drew)); exact HO391.out) hb); have n3_ := Aside0.mk (Kd.R_below (by (with_reducible repeat (first | apply Kd.R_alloc | apply Kd.R_drewN | apply Kd.R_drew)); exact HO395.out) hb); have n4_ := Aside0.mk (Kd.V_below (Kd.V_elderB (by (with_reducible repeat (first | apply Kd.V_alloc | apply Kd.V_drewN | apply Kd.V_drew)); exact HO398.out) gb400 (Nat.le_of_eq hg.symm)) hb); have n5_ := Aside0.mk (blk_below (g := gb380) (o := .cells #[.slice Ao8 t381.length co8] 24 (0, 0)) (by (with_reducible repeat (first | refine blk_drewN ?_ _ | refine blk_drew ?_ | refine blk_alloc ?_ _)); exact BK380.out) hb); have n6_ := Aside0.mk (below_step (by repeat (first | (with_reducible first | exact HB.out | apply below_alloc | apply pw_below_drewN | apply below_drew1 | refine below_set ?_ GE380.out) | exact HB.out)) hb); have n7_ := Aside0.mk (hbox); have n8_ := Aside0.mk ((by rw [hg]; exact (below_size (by repeat (first | (with_reducible first | exact HB.out | apply below_alloc | apply pw_below_drewN | apply below_drew1 | refine below_set ?_ GE380.out) | exact HB.out))) : w.heap.size ≤ gb400)); have n9_ := Aside0.mk ((by rw [hg]; exact (below_size (by repeat (first | (with_reducible first | exact HB.out | apply below_alloc | apply pw_below_drewN | apply below_drew1 | refine below_set ?_ GE380.out) | exact HB.out))) : w.heap.size ≤ gb400)); have n10_ := Aside0.mk ((by rw [hg]; exact Nat.ne_of_lt (blk_lt (g := gb380) (o := .cells #[.slice Ao8 t381.length co8] 24 (0, 0)) (by (with_reducible repeat (first | refine blk_drewN ?_ _ | refine blk_drew ?_ | refine blk_alloc ?_ _)); exact BK380.out)) : gb380 ≠ gb400)); have n11_ := Aside0.mk ((by rw [hg]; exact Nat.ne_of_gt (blk_lt (g := gb380) (o := .cells #[.slice Ao8 t381.length co8] 24 (0, 0)) (by (with_reducible repeat (first | refine blk_drewN ?_ _ | refine blk_drew ?_ | refine blk_alloc ?_ _)); exact BK380.out)) : gb400 ≠ gb380)); clear HO_3; clear HO_381000; clear HO391; clear HO395; clear HO398; clear BK380; clear HB; have HO_3 := n0_; have HO_381000 := n1_; have HO391 := n2_; have HO395 := n3_; have HO398 := n4_; have BK380 := n5_; have HB := n6_; have BK400 := n7_; have GW400 := n8_; have GE400 := n9_; have NB380_400 := n10_; have NB400_380 := n11_; clear n0_ n1_ n2_ n3_ n4_ n5_ n6_ n7_ n8_ n9_ n10_ n11_; clear hb hbox hg; obtain ⟨Ao24, co24, eo24⟩ := Kd.V_slice HO398.out; subst eo24; have hnb25 := NB400_380.out; have hnc25 := NB380_400.out; have hcz26_0 : w23.cell? ⟨gb400, 0, none⟩ = some (.slice none 0 0) := (blk_cell BK400.out 0).trans rfl; have hfz26_0 := blk_frozen BK400.out 0))
          (try simp only [Act.put, List.setIfInBounds_toArray, List.set_cons_zero, List.set_cons_succ])
          go_cut [66] (fun v66 wc => ∃ (kq : Nat) (x66_16 : Bool), v66 = .bool x66_16 ∧ Aside0 (graftwoodlaw10_InternBack.j1 kq x3_1 t393 x66_16 = some r) ∧ Aside0 (kq ≤ k1) ∧ Aside0 (Kd.R (Kd.int .i64) 3 wc w.heap.size (fun k_ => some k_ ≠ (v394 : Value).ownBlock) (.slice Ao19 x3_1.length co19) x3_1) ∧ Aside0 (Kd.R (Kd.int .i64) 3 wc w.heap.size (fun k_ => some k_ ≠ ((.slice Ao19 x3_1.length co19) : Value).ownBlock) v394 t393) ∧ Aside0 (Kd.R k34 34 wc w.heap.size (fun _ => True) (.slice Ao8 t381.length co8) t381) ∧ Aside0 (Kd.V k34 34 wc w.heap.size (fun k_ => some k_ ≠ ((.slice Ao19 x3_1.length co19) : Value).ownBlock ∧ some k_ ≠ (v394 : Value).ownBlock ∧ some k_ ≠ ((.slice Ao8 t381.length co8) : Value).ownBlock ∧ k_ ≠ gb380 ∧ k_ ≠ gb400) (.slice Ao24 t396.length co24) t396) ∧ Aside0 (wc.heap[gb380]? = some (.cells #[(.slice Ao8 t381.length co8)] 24 (0, 0))) ∧ Aside0 (wc.heap[gb400]? = some (.cells #[(.slice Ao24 t396.length co24)] 24 (0, 0))) ∧ Aside0 (Below w.heap.size w wc))
          case first =>
            have H := HC17.out
            clear HC17
            by_cases c27 : t392 = 0
            · rw [if_pos c27] at H
              have c27b0 : (t392 == 0) = true := beq_iff_eq.mpr c27
              have c27b1 : (t392 != 0) = false := bne_eq_false_iff_eq.mpr c27
              clear c27
              (first | rw [c27b0] | (simp only [i64_w, i32_w]; rw [c27b0]) | skip)
              by_cases c28 : t399 = 0
              · rw [if_pos c28] at H
                have c28b0 : (t399 == 0) = true := beq_iff_eq.mpr c28
                have c28b1 : (t399 != 0) = false := bne_eq_false_iff_eq.mpr c28
                clear c28
                replace H := Option.bind_eq_some_iff.mp H
                obtain ⟨t401, A290, H⟩ := H
                replace H : (if t401 = true then ((graftwoodlaw10_same.f k1 t396 t381).bind fun t402 => (if t402 = true then (graftwoodlaw10_InternBack.j1 k1 x3_1 t393 ((t393.length : Int) != (x3_1.length : Int))) else (graftwoodlaw10_InternBack.j1 k1 x3_1 t393 true))) else (graftwoodlaw10_InternBack.j1 k1 x3_1 t393 true)) = some r := H
                have A29 := Aside0.mk A290
                clear A290
                by_cases c30 : t401 = true
                · subst c30
                  have H1 : ((graftwoodlaw10_same.f k1 t396 t381).bind fun t402 => (if t402 = true then (graftwoodlaw10_InternBack.j1 k1 x3_1 t393 ((t393.length : Int) != (x3_1.length : Int))) else (graftwoodlaw10_InternBack.j1 k1 x3_1 t393 true))) = some r := by rw [if_pos rfl] at H; exact H
                  clear H
                  have H := H1
                  clear H1
                  replace H := Option.bind_eq_some_iff.mp H
                  obtain ⟨t402, A310, H⟩ := H
                  replace H : (if t402 = true then (graftwoodlaw10_InternBack.j1 k1 x3_1 t393 ((t393.length : Int) != (x3_1.length : Int))) else (graftwoodlaw10_InternBack.j1 k1 x3_1 t393 true)) = some r := H
                  have A31 := Aside0.mk A310
                  clear A310
                  by_cases c32 : t402 = true
                  · subst c32
                    have H1 : (graftwoodlaw10_InternBack.j1 k1 x3_1 t393 ((t393.length : Int) != (x3_1.length : Int))) = some r := by rw [if_pos rfl] at H; exact H
                    clear H
                    have H := H1
                    clear H1
                    have H' := Aside0.mk H
                    clear H
                    have hnb33 := NB380_400.out
                    have hnc33 := NB400_380.out
                    have hcz34_0 : w23.cell? ⟨gb380, 0, none⟩ = some (.slice Ao8 t381.length co8) := (blk_cell BK380.out 0).trans rfl
                    have hfz34_0 := blk_frozen BK380.out 0
                    go_wp2_with (first | (go_at_call 19; (with_reducible refine (graftwoodref05_Same.calls k1 _ _ t389 _ _ t381 true _ ?side1 ?side2 ?side3 ?side4 A29.out).mono ?_); (case side1 => refine (Kd.R_reads' (e := 34) (base := w.heap.size) (ok := fun k_ => (True ∧ some k_ ≠ (.slice Ao8 t381.length co8 : Value).ownBlock)) (n := t389.length) (c := co21) ?_).2.2; exact (by (with_reducible repeat (first | apply Kd.R_alloc | apply Kd.R_drewN | apply Kd.R_drew)); exact (Kd.R_mono (Kd.R_far (p := ⟨gb400, 0, none⟩) (Kd.R_types HO391.out BK400.out (by decide)) (fun _ hk => hk.2) (.slice Ao24 t396.length co24)) (fun _ h_ => h_.1)))); (case side2 => exact (Kd.R_reads' HO391.out).2.1); (case side3 => refine (Kd.R_reads' (e := 34) (base := w.heap.size) (ok := fun k_ => (True ∧ some k_ ≠ (.slice Ao21 t389.length co21 : Value).ownBlock)) (n := t381.length) (c := co8) ?_).2.2; exact (by (with_reducible repeat (first | apply Kd.R_alloc | apply Kd.R_drewN | apply Kd.R_drew)); exact (Kd.R_mono (Kd.R_far (p := ⟨gb400, 0, none⟩) (Kd.R_types HO_381000.out BK400.out (by decide)) (fun _ hk => hk.2) (.slice Ao24 t396.length co24)) (fun _ h_ => h_.1)))); (case side4 => exact (Kd.R_reads' HO_381000.out).2.1); rintro e w' ⟨rfl, ⟨nd, rfl⟩⟩; have hcz35_0 : w23.cell? ⟨gb400, 0, none⟩ = some (.slice none 0 0) := (blk_cell BK400.out 0).trans rfl; have hfz35_0 := blk_frozen BK400.out 0) | (go_at_call 13; (with_reducible refine (graftwoodlaw10_same.calls k1 _ _ t396 _ _ t381 true _ ?side1 ?side2 ?side3 ?side4 A31.out).mono ?_); (case side1 => refine (Kd.V_reads' (e := 34) (base := w.heap.size) (ok := fun k_ => ((some k_ ≠ (v394 : Value).ownBlock ∧ (some k_ ≠ (.slice Ao19 x3_1.length co19 : Value).ownBlock ∧ (some k_ ≠ (.slice Ao8 t381.length co8 : Value).ownBlock ∧ (some k_ ≠ (.slice Ao21 t389.length co21 : Value).ownBlock ∧ k_ ≠ gb380)))) ∧ k_ ≠ gb400)) (n := t396.length) (c := co24) ?_).2.2; exact (by (with_reducible repeat (first | apply Kd.V_alloc | apply Kd.V_drewN | apply Kd.V_drew)); exact (Kd.V_mono (Kd.V_far (p := ⟨gb400, 0, none⟩) (Kd.V_mono HO398.out (fun k_ hk => (⟨hk, hk.2⟩ : _ ∧ k_ ≠ gb400))) (fun _ hk => hk.2) (.slice Ao24 t396.length co24)) (fun _ h_ => h_.1)))); (case side2 => exact (Kd.V_reads' HO398.out).2.1); (case side3 => refine (Kd.R_reads' (e := 34) (base := w.heap.size) (ok := fun k_ => (True ∧ some k_ ≠ (.slice Ao21 t389.length co21 : Value).ownBlock)) (n := t381.length) (c := co8) ?_).2.2; exact (by (with_reducible repeat (first | apply Kd.R_alloc | apply Kd.R_drewN | apply Kd.R_drew)); exact (Kd.R_mono (Kd.R_far (p := ⟨gb400, 0, none⟩) (Kd.R_types HO_381000.out BK400.out (by decide)) (fun _ hk => hk.2) (.slice Ao24 t396.length co24)) (fun _ h_ => h_.1)))); (case side4 => exact (Kd.R_reads' HO_381000.out).2.1); rintro e w36 ⟨rfl, hb⟩; have n0_ := Aside0.mk (Kd.R_below (by (with_reducible repeat (first | apply Kd.R_alloc | apply Kd.R_drewN | apply Kd.R_drew)); exact (Kd.R_mono (Kd.R_far (p := ⟨gb400, 0, none⟩) (Kd.R_types HO_3.out BK400.out (by decide)) (fun _ hk => hk.2) (.slice Ao24 t396.length co24)) (fun _ h_ => h_.1))) hb); have n1_ := Aside0.mk (Kd.R_below (by (with_reducible repeat (first | apply Kd.R_alloc | apply Kd.R_drewN | apply Kd.R_drew)); exact (Kd.R_mono (Kd.R_far (p := ⟨gb400, 0, none⟩) (Kd.R_types HO_381000.out BK400.out (by decide)) (fun _ hk => hk.2) (.slice Ao24 t396.length co24)) (fun _ h_ => h_.1))) hb); have n2_ := Aside0.mk (Kd.R_below (by (with_reducible repeat (first | apply Kd.R_alloc | apply Kd.R_drewN | apply Kd.R_drew)); exact (Kd.R_mono (Kd.R_far (p := ⟨gb400, 0, none⟩) (Kd.R_types HO391.out BK400.out (by decide)) (fun _ hk => hk.2) (.slice Ao24 t396.length co24)) (fun _ h_ => h_.1))) hb); have n3_ := Aside0.mk (Kd.R_below (by (with_reducible repeat (first | apply Kd.R_alloc | apply Kd.R_drewN | apply Kd.R_drew)); exact (Kd.R_mono (Kd.R_far (p := ⟨gb400, 0, none⟩) (Kd.R_types HO395.out BK400.out (by decide)) (fun _ hk => hk.2) (.slice Ao24 t396.length co24)) (fun _ h_ => h_.1))) hb); have n4_ := Aside0.mk (Kd.V_below (by (with_reducible repeat (first | apply Kd.V_alloc | apply Kd.V_drewN | apply Kd.V_drew)); exact (Kd.V_mono (Kd.V_far (p := ⟨gb400, 0, none⟩) (Kd.V_mono HO398.out (fun k_ hk => (⟨hk, hk.2⟩ : _ ∧ k_ ≠ gb400))) (fun _ hk => hk.2) (.slice Ao24 t396.length co24)) (fun _ h_ => h_.1))) hb); have n5_ := Aside0.mk (blk_below (g := gb380) (o := .cells #[.slice Ao8 t381.length co8] 24 (0, 0)) (by (with_reducible repeat (first | refine blk_drewN ?_ _ | refine blk_drew ?_ | refine blk_alloc ?_ _)); refine blk_far ?_ NB380_400.out _; (with_reducible repeat (first | refine blk_drewN ?_ _ | refine blk_drew ?_ | refine blk_alloc ?_ _)); exact BK380.out) hb); have n6_ := Aside0.mk (blk_below (g := gb400) (o := .cells #[.slice Ao24 t396.length co24] 24 (0, 0)) (by (with_reducible repeat (first | refine blk_drewN ?_ _ | refine blk_drew ?_ | refine blk_alloc ?_ _)); refine blk_put (cs := #[.slice none 0 0]) ?_ 0 _ rfl; (with_reducible repeat (first | refine blk_drewN ?_ _ | refine blk_drew ?_ | refine blk_alloc ?_ _)); exact BK400.out) hb); have n7_ := Aside0.mk (below_step (by repeat (first | (with_reducible first | exact HB.out | apply below_alloc | apply pw_below_drewN | apply below_drew1 | refine below_set ?_ GE380.out | refine below_set ?_ GE400.out) | exact HB.out)) hb); clear HO_3; clear HO_381000; clear HO391; clear HO395; clear HO398; clear BK380; clear BK400; clear HB; have HO_3 := n0_; have HO_381000 := n1_; have HO391 := n2_; have HO395 := n3_; have HO398 := n4_; have BK380 := n5_; have BK400 := n6_; have HB := n7_; clear n0_ n1_ n2_ n3_ n4_ n5_ n6_ n7_; (try clear hb); (try clear hb2); (try clear hk); (try clear hi); obtain ⟨Ao37, co37, eo37⟩ := Kd.R_slice HO395.out; subst eo37))
                    go_meet
                    case rel => exact ⟨_, (((t393.length : Int) != (x3_1.length : Int))), (by first | rfl | (simp; done) | (simp [*]; done)), H', ⟨by have := HK1.out; first | omega | exact Nat.le_refl _⟩, ⟨by (with_reducible repeat (first | apply Kd.R_alloc | apply Kd.R_drewN | apply Kd.R_drew)); exact Kd.R_mono HO_3.out (fun _ hk => hk.2)⟩, ⟨by (with_reducible repeat (first | apply Kd.R_alloc | apply Kd.R_drewN | apply Kd.R_drew)); exact Kd.R_mono HO395.out (fun _ hk => hk.2)⟩, ⟨by (with_reducible repeat (first | apply Kd.R_alloc | apply Kd.R_drewN | apply Kd.R_drew)); exact Kd.R_mono HO_381000.out (fun _ hk => trivial)⟩, ⟨by (with_reducible repeat (first | apply Kd.V_alloc | apply Kd.V_drewN | apply Kd.V_drew)); exact Kd.V_mono HO398.out (fun _ hk => ⟨hk.1.2.1, ⟨hk.1.1, ⟨hk.1.2.2.1, ⟨hk.1.2.2.2.2, hk.2⟩⟩⟩⟩)⟩, ⟨by (with_reducible repeat (first | refine blk_drewN ?_ _ | refine blk_drew ?_ | refine blk_alloc ?_ _)); exact BK380.out⟩, ⟨by (with_reducible repeat (first | refine blk_drewN ?_ _ | refine blk_drew ?_ | refine blk_alloc ?_ _)); exact BK400.out⟩, ⟨by repeat (first | (with_reducible first | exact HB.out | apply below_alloc | apply pw_below_drewN | apply below_drew1 | refine below_set ?_ GE380.out | refine below_set ?_ GE400.out) | exact HB.out)⟩⟩
                  · replace c32 := Bool.eq_false_iff.mpr c32
                    subst c32
                    have H1 : (graftwoodlaw10_InternBack.j1 k1 x3_1 t393 true) = some r := by rw [if_neg (show ¬ (false = true) by decide)] at H; exact H
                    clear H
                    have H := H1
                    clear H1
                    have H' := Aside0.mk H
                    clear H
                    have hnb38 := NB380_400.out
                    have hnc38 := NB400_380.out
                    have hcz39_0 : w23.cell? ⟨gb380, 0, none⟩ = some (.slice Ao8 t381.length co8) := (blk_cell BK380.out 0).trans rfl
                    have hfz39_0 := blk_frozen BK380.out 0
                    go_wp2_with (first | (go_at_call 19; (with_reducible refine (graftwoodref05_Same.calls k1 _ _ t389 _ _ t381 true _ ?side1 ?side2 ?side3 ?side4 A29.out).mono ?_); (case side1 => refine (Kd.R_reads' (e := 34) (base := w.heap.size) (ok := fun k_ => (True ∧ some k_ ≠ (.slice Ao8 t381.length co8 : Value).ownBlock)) (n := t389.length) (c := co21) ?_).2.2; exact (by (with_reducible repeat (first | apply Kd.R_alloc | apply Kd.R_drewN | apply Kd.R_drew)); exact (Kd.R_mono (Kd.R_far (p := ⟨gb400, 0, none⟩) (Kd.R_types HO391.out BK400.out (by decide)) (fun _ hk => hk.2) (.slice Ao24 t396.length co24)) (fun _ h_ => h_.1)))); (case side2 => exact (Kd.R_reads' HO391.out).2.1); (case side3 => refine (Kd.R_reads' (e := 34) (base := w.heap.size) (ok := fun k_ => (True ∧ some k_ ≠ (.slice Ao21 t389.length co21 : Value).ownBlock)) (n := t381.length) (c := co8) ?_).2.2; exact (by (with_reducible repeat (first | apply Kd.R_alloc | apply Kd.R_drewN | apply Kd.R_drew)); exact (Kd.R_mono (Kd.R_far (p := ⟨gb400, 0, none⟩) (Kd.R_types HO_381000.out BK400.out (by decide)) (fun _ hk => hk.2) (.slice Ao24 t396.length co24)) (fun _ h_ => h_.1)))); (case side4 => exact (Kd.R_reads' HO_381000.out).2.1); rintro e w' ⟨rfl, ⟨nd, rfl⟩⟩; have hcz40_0 : w23.cell? ⟨gb400, 0, none⟩ = some (.slice none 0 0) := (blk_cell BK400.out 0).trans rfl; have hfz40_0 := blk_frozen BK400.out 0) | (go_at_call 13; (with_reducible refine (graftwoodlaw10_same.calls k1 _ _ t396 _ _ t381 false _ ?side1 ?side2 ?side3 ?side4 A31.out).mono ?_); (case side1 => refine (Kd.V_reads' (e := 34) (base := w.heap.size) (ok := fun k_ => ((some k_ ≠ (v394 : Value).ownBlock ∧ (some k_ ≠ (.slice Ao19 x3_1.length co19 : Value).ownBlock ∧ (some k_ ≠ (.slice Ao8 t381.length co8 : Value).ownBlock ∧ (some k_ ≠ (.slice Ao21 t389.length co21 : Value).ownBlock ∧ k_ ≠ gb380)))) ∧ k_ ≠ gb400)) (n := t396.length) (c := co24) ?_).2.2; exact (by (with_reducible repeat (first | apply Kd.V_alloc | apply Kd.V_drewN | apply Kd.V_drew)); exact (Kd.V_mono (Kd.V_far (p := ⟨gb400, 0, none⟩) (Kd.V_mono HO398.out (fun k_ hk => (⟨hk, hk.2⟩ : _ ∧ k_ ≠ gb400))) (fun _ hk => hk.2) (.slice Ao24 t396.length co24)) (fun _ h_ => h_.1)))); (case side2 => exact (Kd.V_reads' HO398.out).2.1); (case side3 => refine (Kd.R_reads' (e := 34) (base := w.heap.size) (ok := fun k_ => (True ∧ some k_ ≠ (.slice Ao21 t389.length co21 : Value).ownBlock)) (n := t381.length) (c := co8) ?_).2.2; exact (by (with_reducible repeat (first | apply Kd.R_alloc | apply Kd.R_drewN | apply Kd.R_drew)); exact (Kd.R_mono (Kd.R_far (p := ⟨gb400, 0, none⟩) (Kd.R_types HO_381000.out BK400.out (by decide)) (fun _ hk => hk.2) (.slice Ao24 t396.length co24)) (fun _ h_ => h_.1)))); (case side4 => exact (Kd.R_reads' HO_381000.out).2.1); rintro e w41 ⟨rfl, hb⟩; have n0_ := Aside0.mk (Kd.R_below (by (with_reducible repeat (first | apply Kd.R_alloc | apply Kd.R_drewN | apply Kd.R_drew)); exact (Kd.R_mono (Kd.R_far (p := ⟨gb400, 0, none⟩) (Kd.R_types HO_3.out BK400.out (by decide)) (fun _ hk => hk.2) (.slice Ao24 t396.length co24)) (fun _ h_ => h_.1))) hb); have n1_ := Aside0.mk (Kd.R_below (by (with_reducible repeat (first | apply Kd.R_alloc | apply Kd.R_drewN | apply Kd.R_drew)); exact (Kd.R_mono (Kd.R_far (p := ⟨gb400, 0, none⟩) (Kd.R_types HO_381000.out BK400.out (by decide)) (fun _ hk => hk.2) (.slice Ao24 t396.length co24)) (fun _ h_ => h_.1))) hb); have n2_ := Aside0.mk (Kd.R_below (by (with_reducible repeat (first | apply Kd.R_alloc | apply Kd.R_drewN | apply Kd.R_drew)); exact (Kd.R_mono (Kd.R_far (p := ⟨gb400, 0, none⟩) (Kd.R_types HO391.out BK400.out (by decide)) (fun _ hk => hk.2) (.slice Ao24 t396.length co24)) (fun _ h_ => h_.1))) hb); have n3_ := Aside0.mk (Kd.R_below (by (with_reducible repeat (first | apply Kd.R_alloc | apply Kd.R_drewN | apply Kd.R_drew)); exact (Kd.R_mono (Kd.R_far (p := ⟨gb400, 0, none⟩) (Kd.R_types HO395.out BK400.out (by decide)) (fun _ hk => hk.2) (.slice Ao24 t396.length co24)) (fun _ h_ => h_.1))) hb); have n4_ := Aside0.mk (Kd.V_below (by (with_reducible repeat (first | apply Kd.V_alloc | apply Kd.V_drewN | apply Kd.V_drew)); exact (Kd.V_mono (Kd.V_far (p := ⟨gb400, 0, none⟩) (Kd.V_mono HO398.out (fun k_ hk => (⟨hk, hk.2⟩ : _ ∧ k_ ≠ gb400))) (fun _ hk => hk.2) (.slice Ao24 t396.length co24)) (fun _ h_ => h_.1))) hb); have n5_ := Aside0.mk (blk_below (g := gb380) (o := .cells #[.slice Ao8 t381.length co8] 24 (0, 0)) (by (with_reducible repeat (first | refine blk_drewN ?_ _ | refine blk_drew ?_ | refine blk_alloc ?_ _)); refine blk_far ?_ NB380_400.out _; (with_reducible repeat (first | refine blk_drewN ?_ _ | refine blk_drew ?_ | refine blk_alloc ?_ _)); exact BK380.out) hb); have n6_ := Aside0.mk (blk_below (g := gb400) (o := .cells #[.slice Ao24 t396.length co24] 24 (0, 0)) (by (with_reducible repeat (first | refine blk_drewN ?_ _ | refine blk_drew ?_ | refine blk_alloc ?_ _)); refine blk_put (cs := #[.slice none 0 0]) ?_ 0 _ rfl; (with_reducible repeat (first | refine blk_drewN ?_ _ | refine blk_drew ?_ | refine blk_alloc ?_ _)); exact BK400.out) hb); have n7_ := Aside0.mk (below_step (by repeat (first | (with_reducible first | exact HB.out | apply below_alloc | apply pw_below_drewN | apply below_drew1 | refine below_set ?_ GE380.out | refine below_set ?_ GE400.out) | exact HB.out)) hb); clear HO_3; clear HO_381000; clear HO391; clear HO395; clear HO398; clear BK380; clear BK400; clear HB; have HO_3 := n0_; have HO_381000 := n1_; have HO391 := n2_; have HO395 := n3_; have HO398 := n4_; have BK380 := n5_; have BK400 := n6_; have HB := n7_; clear n0_ n1_ n2_ n3_ n4_ n5_ n6_ n7_; (try clear hb); (try clear hb2); (try clear hk); (try clear hi)))
                    go_meet
                    case rel => exact ⟨_, (true), (by first | rfl | (simp; done) | (simp [*]; done)), H', ⟨by have := HK1.out; first | omega | exact Nat.le_refl _⟩, ⟨by (with_reducible repeat (first | apply Kd.R_alloc | apply Kd.R_drewN | apply Kd.R_drew)); exact Kd.R_mono HO_3.out (fun _ hk => hk.2)⟩, ⟨by (with_reducible repeat (first | apply Kd.R_alloc | apply Kd.R_drewN | apply Kd.R_drew)); exact Kd.R_mono HO395.out (fun _ hk => hk.2)⟩, ⟨by (with_reducible repeat (first | apply Kd.R_alloc | apply Kd.R_drewN | apply Kd.R_drew)); exact Kd.R_mono HO_381000.out (fun _ hk => trivial)⟩, ⟨by (with_reducible repeat (first | apply Kd.V_alloc | apply Kd.V_drewN | apply Kd.V_drew)); exact Kd.V_mono HO398.out (fun _ hk => ⟨hk.1.2.1, ⟨hk.1.1, ⟨hk.1.2.2.1, ⟨hk.1.2.2.2.2, hk.2⟩⟩⟩⟩)⟩, ⟨by (with_reducible repeat (first | refine blk_drewN ?_ _ | refine blk_drew ?_ | refine blk_alloc ?_ _)); exact BK380.out⟩, ⟨by (with_reducible repeat (first | refine blk_drewN ?_ _ | refine blk_drew ?_ | refine blk_alloc ?_ _)); exact BK400.out⟩, ⟨by repeat (first | (with_reducible first | exact HB.out | apply below_alloc | apply pw_below_drewN | apply below_drew1 | refine below_set ?_ GE380.out | refine below_set ?_ GE400.out) | exact HB.out)⟩⟩
                · replace c30 := Bool.eq_false_iff.mpr c30
                  subst c30
                  have H1 : (graftwoodlaw10_InternBack.j1 k1 x3_1 t393 true) = some r := by rw [if_neg (show ¬ (false = true) by decide)] at H; exact H
                  clear H
                  have H := H1
                  clear H1
                  have H' := Aside0.mk H
                  clear H
                  have hnb42 := NB380_400.out
                  have hnc42 := NB400_380.out
                  have hcz43_0 : w23.cell? ⟨gb380, 0, none⟩ = some (.slice Ao8 t381.length co8) := (blk_cell BK380.out 0).trans rfl
                  have hfz43_0 := blk_frozen BK380.out 0
                  go_wp2_with (first | (go_at_call 19; (with_reducible refine (graftwoodref05_Same.calls k1 _ _ t389 _ _ t381 false _ ?side1 ?side2 ?side3 ?side4 A29.out).mono ?_); (case side1 => refine (Kd.R_reads' (e := 34) (base := w.heap.size) (ok := fun k_ => (True ∧ some k_ ≠ (.slice Ao8 t381.length co8 : Value).ownBlock)) (n := t389.length) (c := co21) ?_).2.2; exact (by (with_reducible repeat (first | apply Kd.R_alloc | apply Kd.R_drewN | apply Kd.R_drew)); exact (Kd.R_mono (Kd.R_far (p := ⟨gb400, 0, none⟩) (Kd.R_types HO391.out BK400.out (by decide)) (fun _ hk => hk.2) (.slice Ao24 t396.length co24)) (fun _ h_ => h_.1)))); (case side2 => exact (Kd.R_reads' HO391.out).2.1); (case side3 => refine (Kd.R_reads' (e := 34) (base := w.heap.size) (ok := fun k_ => (True ∧ some k_ ≠ (.slice Ao21 t389.length co21 : Value).ownBlock)) (n := t381.length) (c := co8) ?_).2.2; exact (by (with_reducible repeat (first | apply Kd.R_alloc | apply Kd.R_drewN | apply Kd.R_drew)); exact (Kd.R_mono (Kd.R_far (p := ⟨gb400, 0, none⟩) (Kd.R_types HO_381000.out BK400.out (by decide)) (fun _ hk => hk.2) (.slice Ao24 t396.length co24)) (fun _ h_ => h_.1)))); (case side4 => exact (Kd.R_reads' HO_381000.out).2.1); rintro e w' ⟨rfl, ⟨nd, rfl⟩⟩))
                  go_meet
                  case rel => exact ⟨_, (true), (by first | rfl | (simp; done) | (simp [*]; done)), H', ⟨by have := HK1.out; first | omega | exact Nat.le_refl _⟩, ⟨by (with_reducible repeat (first | apply Kd.R_alloc | apply Kd.R_drewN | apply Kd.R_drew)); exact Kd.R_mono (Kd.R_far (p := ⟨gb400, 0, none⟩) (Kd.R_types HO_3.out BK400.out (by decide)) (fun _ hk => hk.2) (.slice Ao24 t396.length co24)) (fun _ hk => hk.1.2)⟩, ⟨by (with_reducible repeat (first | apply Kd.R_alloc | apply Kd.R_drewN | apply Kd.R_drew)); exact Kd.R_mono (Kd.R_far (p := ⟨gb400, 0, none⟩) (Kd.R_types HO395.out BK400.out (by decide)) (fun _ hk => hk.2) (.slice Ao24 t396.length co24)) (fun _ hk => hk.1.2)⟩, ⟨by (with_reducible repeat (first | apply Kd.R_alloc | apply Kd.R_drewN | apply Kd.R_drew)); exact Kd.R_mono (Kd.R_far (p := ⟨gb400, 0, none⟩) (Kd.R_types HO_381000.out BK400.out (by decide)) (fun _ hk => hk.2) (.slice Ao24 t396.length co24)) (fun _ hk => trivial)⟩, ⟨by (with_reducible repeat (first | apply Kd.V_alloc | apply Kd.V_drewN | apply Kd.V_drew)); exact Kd.V_mono (Kd.V_far (p := ⟨gb400, 0, none⟩) (Kd.V_mono HO398.out (fun k_ hk => (⟨hk, hk.2⟩ : _ ∧ k_ ≠ gb400))) (fun _ hk => hk.2) (.slice Ao24 t396.length co24)) (fun _ hk => ⟨hk.1.1.2.1, ⟨hk.1.1.1, ⟨hk.1.1.2.2.1, ⟨hk.1.1.2.2.2.2, hk.1.2⟩⟩⟩⟩)⟩, ⟨by (with_reducible repeat (first | refine blk_drewN ?_ _ | refine blk_drew ?_ | refine blk_alloc ?_ _)); refine blk_far ?_ NB380_400.out _; (with_reducible repeat (first | refine blk_drewN ?_ _ | refine blk_drew ?_ | refine blk_alloc ?_ _)); exact BK380.out⟩, ⟨by (with_reducible repeat (first | refine blk_drewN ?_ _ | refine blk_drew ?_ | refine blk_alloc ?_ _)); refine blk_put (cs := #[.slice none 0 0]) ?_ 0 _ rfl; (with_reducible repeat (first | refine blk_drewN ?_ _ | refine blk_drew ?_ | refine blk_alloc ?_ _)); exact BK400.out⟩, ⟨by repeat (first | (with_reducible first | exact HB.out | apply below_alloc | apply pw_below_drewN | apply below_drew1 | refine below_set ?_ GE380.out | refine below_set ?_ GE400.out) | exact HB.out)⟩⟩
              · rw [if_neg c28] at H
                have c28b0 : (t399 == 0) = false := beq_eq_false_iff_ne.mpr c28
                have c28b1 : (t399 != 0) = true := bne_iff_ne.mpr c28
                have H' := Aside0.mk H
                clear H
                go_wp2
                go_meet
                case rel => exact ⟨_, (true), (by first | rfl | (simp; done) | (simp [*]; done)), H', ⟨by have := HK1.out; first | omega | exact Nat.le_refl _⟩, ⟨by (with_reducible repeat (first | apply Kd.R_alloc | apply Kd.R_drewN | apply Kd.R_drew)); exact Kd.R_mono (Kd.R_far (p := ⟨gb400, 0, none⟩) (Kd.R_types HO_3.out BK400.out (by decide)) (fun _ hk => hk.2) (.slice Ao24 t396.length co24)) (fun _ hk => hk.1.2)⟩, ⟨by (with_reducible repeat (first | apply Kd.R_alloc | apply Kd.R_drewN | apply Kd.R_drew)); exact Kd.R_mono (Kd.R_far (p := ⟨gb400, 0, none⟩) (Kd.R_types HO395.out BK400.out (by decide)) (fun _ hk => hk.2) (.slice Ao24 t396.length co24)) (fun _ hk => hk.1.2)⟩, ⟨by (with_reducible repeat (first | apply Kd.R_alloc | apply Kd.R_drewN | apply Kd.R_drew)); exact Kd.R_mono (Kd.R_far (p := ⟨gb400, 0, none⟩) (Kd.R_types HO_381000.out BK400.out (by decide)) (fun _ hk => hk.2) (.slice Ao24 t396.length co24)) (fun _ hk => trivial)⟩, ⟨by (with_reducible repeat (first | apply Kd.V_alloc | apply Kd.V_drewN | apply Kd.V_drew)); exact Kd.V_mono (Kd.V_far (p := ⟨gb400, 0, none⟩) (Kd.V_mono HO398.out (fun k_ hk => (⟨hk, hk.2⟩ : _ ∧ k_ ≠ gb400))) (fun _ hk => hk.2) (.slice Ao24 t396.length co24)) (fun _ hk => ⟨hk.1.1.2.1, ⟨hk.1.1.1, ⟨hk.1.1.2.2.1, ⟨hk.1.1.2.2.2.2, hk.1.2⟩⟩⟩⟩)⟩, ⟨by (with_reducible repeat (first | refine blk_drewN ?_ _ | refine blk_drew ?_ | refine blk_alloc ?_ _)); refine blk_far ?_ NB380_400.out _; (with_reducible repeat (first | refine blk_drewN ?_ _ | refine blk_drew ?_ | refine blk_alloc ?_ _)); exact BK380.out⟩, ⟨by (with_reducible repeat (first | refine blk_drewN ?_ _ | refine blk_drew ?_ | refine blk_alloc ?_ _)); refine blk_put (cs := #[.slice none 0 0]) ?_ 0 _ rfl; (with_reducible repeat (first | refine blk_drewN ?_ _ | refine blk_drew ?_ | refine blk_alloc ?_ _)); exact BK400.out⟩, ⟨by repeat (first | (with_reducible first | exact HB.out | apply below_alloc | apply pw_below_drewN | apply below_drew1 | refine below_set ?_ GE380.out | refine below_set ?_ GE400.out) | exact HB.out)⟩⟩
            · rw [if_neg c27] at H
              have c27b0 : (t392 == 0) = false := beq_eq_false_iff_ne.mpr c27
              have c27b1 : (t392 != 0) = true := bne_iff_ne.mpr c27
              (first | rw [c27b0] | (simp only [i64_w, i32_w]; rw [c27b0]) | skip)
              have H' := Aside0.mk H
              clear H
              go_wp2
              go_meet
              case rel => exact ⟨_, (true), (by first | rfl | (simp; done) | (simp [*]; done)), H', ⟨by have := HK1.out; first | omega | exact Nat.le_refl _⟩, ⟨by (with_reducible repeat (first | apply Kd.R_alloc | apply Kd.R_drewN | apply Kd.R_drew)); exact Kd.R_mono (Kd.R_far (p := ⟨gb400, 0, none⟩) (Kd.R_types HO_3.out BK400.out (by decide)) (fun _ hk => hk.2) (.slice Ao24 t396.length co24)) (fun _ hk => hk.1.2)⟩, ⟨by (with_reducible repeat (first | apply Kd.R_alloc | apply Kd.R_drewN | apply Kd.R_drew)); exact Kd.R_mono (Kd.R_far (p := ⟨gb400, 0, none⟩) (Kd.R_types HO395.out BK400.out (by decide)) (fun _ hk => hk.2) (.slice Ao24 t396.length co24)) (fun _ hk => hk.1.2)⟩, ⟨by (with_reducible repeat (first | apply Kd.R_alloc | apply Kd.R_drewN | apply Kd.R_drew)); exact Kd.R_mono (Kd.R_far (p := ⟨gb400, 0, none⟩) (Kd.R_types HO_381000.out BK400.out (by decide)) (fun _ hk => hk.2) (.slice Ao24 t396.length co24)) (fun _ hk => trivial)⟩, ⟨by (with_reducible repeat (first | apply Kd.V_alloc | apply Kd.V_drewN | apply Kd.V_drew)); exact Kd.V_mono (Kd.V_far (p := ⟨gb400, 0, none⟩) (Kd.V_mono HO398.out (fun k_ hk => (⟨hk, hk.2⟩ : _ ∧ k_ ≠ gb400))) (fun _ hk => hk.2) (.slice Ao24 t396.length co24)) (fun _ hk => ⟨hk.1.1.2.1, ⟨hk.1.1.1, ⟨hk.1.1.2.2.1, ⟨hk.1.1.2.2.2.2, hk.1.2⟩⟩⟩⟩)⟩, ⟨by (with_reducible repeat (first | refine blk_drewN ?_ _ | refine blk_drew ?_ | refine blk_alloc ?_ _)); refine blk_far ?_ NB380_400.out _; (with_reducible repeat (first | refine blk_drewN ?_ _ | refine blk_drew ?_ | refine blk_alloc ?_ _)); exact BK380.out⟩, ⟨by (with_reducible repeat (first | refine blk_drewN ?_ _ | refine blk_drew ?_ | refine blk_alloc ?_ _)); refine blk_put (cs := #[.slice none 0 0]) ?_ 0 _ rfl; (with_reducible repeat (first | refine blk_drewN ?_ _ | refine blk_drew ?_ | refine blk_alloc ?_ _)); exact BK400.out⟩, ⟨by repeat (first | (with_reducible first | exact HB.out | apply below_alloc | apply pw_below_drewN | apply below_drew1 | refine below_set ?_ GE380.out | refine below_set ?_ GE400.out) | exact HB.out)⟩⟩
          case rest =>
            clear HC17
            try clear c1
            try clear c2
            try clear p2
            try clear c3
            try clear c4
            try clear c4b0
            try clear c4b1
            try clear c5
            try clear p6
            try clear c8
            try clear c10
            try clear c11
            try clear c11b0
            try clear c12
            try clear c17
            try clear c18
            try clear c25
            try clear c27
            try clear c27b0
            try clear c27b1
            try clear c28
            try clear c28b0
            try clear c28b1
            try clear c30
            try clear c32
            try clear c33
            try clear c38
            try clear c42
            try clear hcz13_0
            try clear hcz18_0
            try clear hcz26_0
            try clear hcz34_0
            try clear hcz35_0
            try clear hcz39_0
            try clear hcz40_0
            try clear hcz43_0
            try clear hcz6_0
            try clear hcz9_0
            try clear hfz13_0
            try clear hfz18_0
            try clear hfz26_0
            try clear hfz34_0
            try clear hfz35_0
            try clear hfz39_0
            try clear hfz40_0
            try clear hfz43_0
            try clear hfz6_0
            try clear hfz9_0
            try clear p2
            obtain ⟨kq, x66_16, rfl, HA, HJ16, HO_3, HO_7, HO_381000, HO_401000, BK380, BK400, HB⟩ := hcut
            cases kq with
            | zero => exact absurd HA.out (by simp [graftwoodlaw10_InternBack.j1])
            | succ kj16 =>
              have H := HA.out
              clear HA
              simp only [graftwoodlaw10_InternBack.j1] at H
              by_cases c44 : x66_16 = true
              · subst c44
                have H1 : (some false) = some r := by rw [if_pos rfl] at H; exact H
                clear H
                have H := H1
                clear H1
                obtain rfl := Option.some.inj H
                go_wp2
                go_ret
                exact ⟨by first | rfl | (simp [errW_none, errW_some] <;> rfl) | (simp [*, errW_none, errW_some] <;> rfl), by repeat (first | (with_reducible first | exact HB.out | apply below_alloc | apply pw_below_drewN | apply below_drew1 | refine below_set ?_ GE380.out | refine below_set ?_ GE400.out) | exact HB.out)⟩
              · replace c44 := Bool.eq_false_iff.mpr c44
                subst c44
                have H1 : (graftwoodlaw10_InternBack.l1 kj16 x3_1 t393 0) = some r := by rw [if_neg (show ¬ (false = true) by decide)] at H; exact H
                clear H
                have H := H1
                clear H1
                have H' := Aside0.mk H
                clear H
                go_wp2
                go_loopg [10] kj16 (fun kq v10 w' => ∃ (x10_3 : Int), v10 = .int .i64 x10_3 ∧ Aside0 (graftwoodlaw10_InternBack.l1 kq x3_1 t393 x10_3 = some r) ∧ Aside0 (kq ≤ kj16) ∧ Aside0 (Kd.R (Kd.int .i64) 3 w' w.heap.size (fun k_ => some k_ ≠ (v394 : Value).ownBlock) (.slice Ao19 x3_1.length co19) x3_1) ∧ Aside0 (Kd.R (Kd.int .i64) 3 w' w.heap.size (fun k_ => some k_ ≠ ((.slice Ao19 x3_1.length co19) : Value).ownBlock) v394 t393) ∧ Aside0 (Kd.R k34 34 w' w.heap.size (fun _ => True) (.slice Ao8 t381.length co8) t381) ∧ Aside0 (Kd.V k34 34 w' w.heap.size (fun k_ => some k_ ≠ ((.slice Ao19 x3_1.length co19) : Value).ownBlock ∧ some k_ ≠ (v394 : Value).ownBlock ∧ some k_ ≠ ((.slice Ao8 t381.length co8) : Value).ownBlock ∧ k_ ≠ gb380 ∧ k_ ≠ gb400) (.slice Ao24 t396.length co24) t396) ∧ Aside0 (w'.heap[gb380]? = some (.cells #[(.slice Ao8 t381.length co8)] 24 (0, 0))) ∧ Aside0 (w'.heap[gb400]? = some (.cells #[(.slice Ao24 t396.length co24)] 24 (0, 0))) ∧ Aside0 (Below w.heap.size w w'))
                case atStart => exact ⟨(0), (by first | rfl | (simp; done) | (simp [*]; done)), H', ⟨Nat.le_refl _⟩, ⟨by (with_reducible repeat (first | apply Kd.R_alloc | apply Kd.R_drewN | apply Kd.R_drew)); exact HO_3.out⟩, ⟨by (with_reducible repeat (first | apply Kd.R_alloc | apply Kd.R_drewN | apply Kd.R_drew)); exact HO_7.out⟩, ⟨by (with_reducible repeat (first | apply Kd.R_alloc | apply Kd.R_drewN | apply Kd.R_drew)); exact HO_381000.out⟩, ⟨by (with_reducible repeat (first | apply Kd.V_alloc | apply Kd.V_drewN | apply Kd.V_drew)); exact HO_401000.out⟩, ⟨by (with_reducible repeat (first | refine blk_drewN ?_ _ | refine blk_drew ?_ | refine blk_alloc ?_ _)); exact BK380.out⟩, ⟨by (with_reducible repeat (first | refine blk_drewN ?_ _ | refine blk_drew ?_ | refine blk_alloc ?_ _)); exact BK400.out⟩, ⟨by repeat (first | (with_reducible first | exact HB.out | apply below_alloc | apply pw_below_drewN | apply below_drew1 | refine below_set ?_ GE380.out | refine below_set ?_ GE400.out) | exact HB.out)⟩⟩
                case round =>
                  clear H'
                  try clear c1
                  try clear c2
                  try clear p2
                  try clear c3
                  try clear c4
                  try clear c4b0
                  try clear c4b1
                  try clear c5
                  try clear p6
                  try clear c8
                  try clear c10
                  try clear c11
                  try clear c11b0
                  try clear c12
                  try clear c17
                  try clear c18
                  try clear c25
                  try clear c27
                  try clear c27b0
                  try clear c27b1
                  try clear c28
                  try clear c28b0
                  try clear c28b1
                  try clear c30
                  try clear c32
                  try clear c33
                  try clear c38
                  try clear c42
                  try clear c44
                  try clear hcz13_0
                  try clear hcz18_0
                  try clear hcz26_0
                  try clear hcz34_0
                  try clear hcz35_0
                  try clear hcz39_0
                  try clear hcz40_0
                  try clear hcz43_0
                  try clear hcz6_0
                  try clear hcz9_0
                  try clear hfz13_0
                  try clear hfz18_0
                  try clear hfz26_0
                  try clear hfz34_0
                  try clear hfz35_0
                  try clear hfz39_0
                  try clear hfz40_0
                  try clear hfz43_0
                  try clear hfz6_0
                  try clear hfz9_0
                  try clear p2
                  try clear p6
                  obtain ⟨x10_3, rfl, HA, HK3, HO_3, HO_7, HO_381000, HO_401000, BK380, BK400, HB⟩ := hrel
                  cases gk with
                  | zero => exact absurd HA.out (by simp [graftwoodlaw10_InternBack.l1])
                  | succ k3 =>
                    have H := HA.out
                    clear HA
                    simp only [graftwoodlaw10_InternBack.l1] at H
                    by_cases c45 : x10_3 < (x3_1.length : Int)
                    · rw [if_pos c45] at H
                      have c45b0 : decide (x10_3 < (x3_1.length : Int)) = true := decide_eq_true c45
                      clear c45
                      by_cases c46 : 0 ≤ x10_3
                      · rw [if_pos c46] at H
                        have c46b0 : decide (0 ≤ x10_3) = true := decide_eq_true c46
                        clear c46
                        by_cases c47 : x10_3 < (t393.length : Int)
                        · rw [if_pos c47] at H
                          have c47b0 : decide (x10_3 < (t393.length : Int)) = true := decide_eq_true c47
                          clear c47
                          by_cases c48 : (rd t393 x10_3) = x10_3
                          · rw [if_pos c48] at H
                            have c48b0 : ((rd t393 x10_3) == x10_3) = true := beq_iff_eq.mpr c48
                            have c48b1 : ((rd t393 x10_3) != x10_3) = false := bne_eq_false_iff_eq.mpr c48
                            clear c48
                            have H' := Aside0.mk H
                            clear H
                            obtain ⟨Ao49, co49, eo49⟩ := Kd.R_slice HO_7.out
                            subst eo49
                            have p403 : 0 ≤ (x10_3 : Int) := of_decide_eq_true (by first | (with_reducible assumption) | assumption)
                            have q403 : x10_3 < (t393.length : Int) := of_decide_eq_true (by first | (with_reducible assumption) | assumption)
                            obtain ⟨ad403, e403, hx403_0⟩ := Kd.at_int (Kd.R_reads' HO_7.out).2.2 x10_3 p403 q403
                            cases e403
                            replace p403 := eq_true p403
                            replace q403 := eq_true q403
                            go_wp2
                            go_roundg k3
                            case measure => have := HK1.out; have := HJ16.out; have := HK3.out; omega
                            case rel => exact ⟨(wrap64 (x10_3 + 1)), (by first | rfl | (simp; done) | (simp [*]; done)), H', ⟨by have := HK1.out; have := HJ16.out; have := HK3.out; omega⟩, ⟨by (with_reducible repeat (first | apply Kd.R_alloc | apply Kd.R_drewN | apply Kd.R_drew)); exact HO_3.out⟩, ⟨by (with_reducible repeat (first | apply Kd.R_alloc | apply Kd.R_drewN | apply Kd.R_drew)); exact HO_7.out⟩, ⟨by (with_reducible repeat (first | apply Kd.R_alloc | apply Kd.R_drewN | apply Kd.R_drew)); exact HO_381000.out⟩, ⟨by (with_reducible repeat (first | apply Kd.V_alloc | apply Kd.V_drewN | apply Kd.V_drew)); exact HO_401000.out⟩, ⟨by (with_reducible repeat (first | refine blk_drewN ?_ _ | refine blk_drew ?_ | refine blk_alloc ?_ _)); exact BK380.out⟩, ⟨by (with_reducible repeat (first | refine blk_drewN ?_ _ | refine blk_drew ?_ | refine blk_alloc ?_ _)); exact BK400.out⟩, ⟨by repeat (first | (with_reducible first | exact HB.out | apply below_alloc | apply pw_below_drewN | apply below_drew1 | refine below_set ?_ GE380.out | refine below_set ?_ GE400.out) | exact HB.out)⟩⟩
                          · rw [if_neg c48] at H
                            have c48b0 : ((rd t393 x10_3) == x10_3) = false := beq_eq_false_iff_ne.mpr c48
                            have c48b1 : ((rd t393 x10_3) != x10_3) = true := bne_iff_ne.mpr c48
                            obtain rfl := Option.some.inj H
                            obtain ⟨Ao50, co50, eo50⟩ := Kd.R_slice HO_7.out
                            subst eo50
                            have p403 : 0 ≤ (x10_3 : Int) := of_decide_eq_true (by first | (with_reducible assumption) | assumption)
                            have q403 : x10_3 < (t393.length : Int) := of_decide_eq_true (by first | (with_reducible assumption) | assumption)
                            obtain ⟨ad403, e403, hx403_0⟩ := Kd.at_int (Kd.R_reads' HO_7.out).2.2 x10_3 p403 q403
                            cases e403
                            replace p403 := eq_true p403
                            replace q403 := eq_true q403
                            go_wp2
                            go_ret
                            exact ⟨by first | rfl | (simp [errW_none, errW_some] <;> rfl) | (simp [*, errW_none, errW_some] <;> rfl), by repeat (first | (with_reducible first | exact HB.out | apply below_alloc | apply pw_below_drewN | apply below_drew1 | refine below_set ?_ GE380.out | refine below_set ?_ GE400.out) | exact HB.out)⟩
                        · rw [if_neg c47] at H
                          exact absurd H (by simp)
                      · rw [if_neg c46] at H
                        exact absurd H (by simp)
                    · rw [if_neg c45] at H
                      have c45b0 : decide (x10_3 < (x3_1.length : Int)) = false := decide_eq_false c45
                      clear c45
                      replace H := Option.bind_eq_some_iff.mp H
                      obtain ⟨t404, A510, H⟩ := H
                      replace H : (some t404) = some r := H
                      have A51 := Aside0.mk A510
                      clear A510
                      obtain rfl := Option.some.inj H
                      go_wp2_with (first | ((with_reducible refine gate_callee (f := 14) rfl ?_); refine goesL_ (some 79) rfl rfl Tryd.func14 (by kernel_rfl) rfl #[] rfl (by (try simp only [List.map_toArray, List.map_cons, List.map_nil]); first | done | rfl | (simp only [List.length_drop, List.length_take]; rfl)) ?_; (with_reducible refine (graftwoodlaw10_awake.calls k3  t404 _ A51.out).mono ?_); rintro e w52 ⟨rfl, hb⟩; refine ⟨_, rfl, ?_⟩; have n0_ := Aside0.mk (Kd.R_below (by (with_reducible repeat (first | apply Kd.R_alloc | apply Kd.R_drewN | apply Kd.R_drew)); exact HO_3.out) hb); have n1_ := Aside0.mk (Kd.R_below (by (with_reducible repeat (first | apply Kd.R_alloc | apply Kd.R_drewN | apply Kd.R_drew)); exact HO_7.out) hb); have n2_ := Aside0.mk (Kd.R_below (by (with_reducible repeat (first | apply Kd.R_alloc | apply Kd.R_drewN | apply Kd.R_drew)); exact HO_381000.out) hb); have n3_ := Aside0.mk (Kd.V_below (by (with_reducible repeat (first | apply Kd.V_alloc | apply Kd.V_drewN | apply Kd.V_drew)); exact HO_401000.out) hb); have n4_ := Aside0.mk (blk_below (g := gb380) (o := .cells #[.slice Ao8 t381.length co8] 24 (0, 0)) (by (with_reducible repeat (first | refine blk_drewN ?_ _ | refine blk_drew ?_ | refine blk_alloc ?_ _)); exact BK380.out) hb); have n5_ := Aside0.mk (blk_below (g := gb400) (o := .cells #[.slice Ao24 t396.length co24] 24 (0, 0)) (by (with_reducible repeat (first | refine blk_drewN ?_ _ | refine blk_drew ?_ | refine blk_alloc ?_ _)); exact BK400.out) hb); have n6_ := Aside0.mk (below_step (by repeat (first | (with_reducible first | exact HB.out | apply below_alloc | apply pw_below_drewN | apply below_drew1 | refine below_set ?_ GE380.out | refine below_set ?_ GE400.out) | exact HB.out)) hb); clear HO_3; clear HO_7; clear HO_381000; clear HO_401000; clear BK380; clear BK400; clear HB; have HO_3 := n0_; have HO_7 := n1_; have HO_381000 := n2_; have HO_401000 := n3_; have BK380 := n4_; have BK400 := n5_; have HB := n6_; clear n0_ n1_ n2_ n3_ n4_ n5_ n6_; (try clear hb); (try clear hb2); (try clear hk); (try clear hi)))
                      go_ret
                      exact ⟨by first | rfl | (simp [errW_none, errW_some] <;> rfl) | (simp [*, errW_none, errW_some] <;> rfl), by repeat (first | (with_reducible first | exact HB.out | apply below_alloc | apply pw_below_drewN | apply below_drew1 | refine below_set ?_ GE380.out | refine below_set ?_ GE400.out) | exact HB.out)⟩
  · rw [if_neg c4] at H
    have c4b0 : (t384 == 0) = false := beq_eq_false_iff_ne.mpr c4
    have c4b1 : (t384 != 0) = true := bne_iff_ne.mpr c4
    replace H := Option.bind_eq_some_iff.mp H
    obtain ⟨t385, A530, H⟩ := H
    replace H : (some t385) = some r := H
    have A53 := Aside0.mk A530
    clear A530
    obtain rfl := Option.some.inj H
    go_enter Tryd.func5, Tryd.ntmps5
    go_wp2_with (first | ((with_reducible refine gate_dst (N := 1) rfl ?_); (try (refine gate_guard (by rfl) ?_; dsimp only)); refine box_event ?hg (N := 1) ?hd (cs := #[.slice A0_0 l0_0.length c0_0]) (t := 24) ?hr ?_; (case hd => rfl); (case hg => rfl); (case hr => first | (go_simp; done) | (go_simp; rfl)); intro gb380 hg w54 hbox hb; have n0_ := Aside0.mk (below_step (by repeat (first | (with_reducible first | exact HB.out | apply below_alloc | apply pw_below_drewN | apply below_drew1) | exact HB.out)) hb); have n1_ := Aside0.mk (hbox); have n2_ := Aside0.mk ((by rw [hg]; exact (below_size (by repeat (first | (with_reducible first | exact HB.out | apply below_alloc | apply pw_below_drewN | apply below_drew1) | exact HB.out))) : w.heap.size ≤ gb380)); have n3_ := Aside0.mk ((by rw [hg]; exact (below_size (by repeat (first | (with_reducible first | exact HB.out | apply below_alloc | apply pw_below_drewN | apply below_drew1) | exact HB.out))) : w.heap.size ≤ gb380)); clear HB; have HB := n0_; have BK380 := n1_; have GW380 := n2_; have GE380 := n3_; clear n0_ n1_ n2_ n3_; clear hb hbox hg; have hcz55_0 : w54.cell? ⟨gb380, 0, none⟩ = some (.slice A0_0 l0_0.length c0_0) := (blk_cell BK380.out 0).trans rfl; have hfz55_0 := blk_frozen BK380.out 0) | ((with_reducible refine gate_callee (f := 8) rfl ?_); refine goesL_ (some 12) rfl rfl Tryd.func8 (by kernel_rfl) rfl #[.agg #[.slice A0_0 l0_0.length c0_0]] rfl (by (try simp only [List.map_toArray, List.map_cons, List.map_nil]); first | done | rfl | (simp only [List.length_drop, List.length_take]; rfl)) ?_; (with_reducible refine (graftwoodlaw10_Few.calls k _ _ l0_0 t381 _ ?side1 ?side2 A2.out).mono ?_); (case side1 => repeat (first | exact (Kd.C_below HR0_0.out HB.out) | (with_reducible refine Kd.C_alloc ?_ _) | (with_reducible refine Kd.C_drewN ?_ _) | (with_reducible refine Kd.C_drew ?_))); (case side2 => exact HC0_0.out); rintro e w56 ⟨v382, rfl, ho0, hb⟩; refine ⟨_, rfl, ?_⟩; have n0_ := Aside0.mk (Kd.R_lower ho0 (below_size (by repeat (first | (with_reducible first | exact HB.out | apply below_alloc | apply pw_below_drewN | apply below_drew1 | refine below_set ?_ GE380.out) | exact HB.out)))); have n1_ := Aside0.mk (blk_below (g := gb380) (o := .cells #[.slice A0_0 l0_0.length c0_0] 24 (0, 0)) (by (with_reducible repeat (first | refine blk_drewN ?_ _ | refine blk_drew ?_ | refine blk_alloc ?_ _)); exact BK380.out) hb); have n2_ := Aside0.mk (below_step (by repeat (first | (with_reducible first | exact HB.out | apply below_alloc | apply pw_below_drewN | apply below_drew1 | refine below_set ?_ GE380.out) | exact HB.out)) hb); clear BK380; clear HB; have HO383 := n0_; have BK380 := n1_; have HB := n2_; clear n0_ n1_ n2_; (try clear hb); (try clear hb2); (try clear hk); (try clear hi); (try clear ho0); obtain ⟨Ao57, co57, eo57⟩ := Kd.R_slice HO383.out; subst eo57; have hcz58_0 : w56.cell? ⟨gb380, 0, none⟩ = some (.slice A0_0 l0_0.length c0_0) := (blk_cell BK380.out 0).trans rfl; have hfz58_0 := blk_frozen BK380.out 0) | ((with_reducible refine gate_callee (f := 17) rfl ?_); refine goesL_ (some 14) rfl rfl Tryd.func17 (by kernel_rfl) rfl #[.agg #[.slice Ao57 t381.length co57]] rfl (by (try simp only [List.map_toArray, List.map_cons, List.map_nil]); first | done | rfl | (simp only [List.length_drop, List.length_take]; rfl)) ?_; (with_reducible refine (intern_Check.calls k _ _ t381 t384 _ ?side1 ?side2 A3.out).mono ?_); (case side1 => refine (Kd.R_reads' (e := 34) (base := w.heap.size) (ok := fun k_ => True) (n := t381.length) (c := co57) ?_).2.2; exact (by (with_reducible repeat (first | apply Kd.R_alloc | apply Kd.R_drewN | apply Kd.R_drew)); exact (Kd.R_mono (Kd.R_far (p := ⟨gb380, 0, none⟩) (Kd.R_types HO383.out BK380.out (by decide)) (fun _ hk => hk.2) (.slice Ao57 t381.length co57)) (fun _ h_ => h_.1)))); (case side2 => exact (Kd.R_reads' HO383.out).2.1); rintro e w59 ⟨rfl, hb⟩; refine ⟨_, rfl, ?_⟩; have n0_ := Aside0.mk (Kd.R_below (by (with_reducible repeat (first | apply Kd.R_alloc | apply Kd.R_drewN | apply Kd.R_drew)); exact (Kd.R_mono (Kd.R_far (p := ⟨gb380, 0, none⟩) (Kd.R_types HO383.out BK380.out (by decide)) (fun _ hk => hk.2) (.slice Ao57 t381.length co57)) (fun _ h_ => h_.1))) hb); have n1_ := Aside0.mk (blk_below (g := gb380) (o := .cells #[.slice Ao57 t381.length co57] 24 (0, 0)) (by (with_reducible repeat (first | refine blk_drewN ?_ _ | refine blk_drew ?_ | refine blk_alloc ?_ _)); refine blk_put (cs := #[.slice A0_0 l0_0.length c0_0]) ?_ 0 _ rfl; (with_reducible repeat (first | refine blk_drewN ?_ _ | refine blk_drew ?_ | refine blk_alloc ?_ _)); exact BK380.out) hb); have n2_ := Aside0.mk (below_step (by repeat (first | (with_reducible first | exact HB.out | apply below_alloc | apply pw_below_drewN | apply below_drew1 | refine below_set ?_ GE380.out) | exact HB.out)) hb); clear HO383; clear BK380; clear HB; have HO383 := n0_; have BK380 := n1_; have HB := n2_; clear n0_ n1_ n2_; (try clear hb); (try clear hb2); (try clear hk); (try clear hi)) | ((with_reducible refine gate_callee (f := 14) rfl ?_); refine goesL_ (some 16) rfl rfl Tryd.func14 (by kernel_rfl) rfl #[] rfl (by (try simp only [List.map_toArray, List.map_cons, List.map_nil]); first | done | rfl | (simp only [List.length_drop, List.length_take]; rfl)) ?_; (with_reducible refine (graftwoodlaw10_awake.calls k  t385 _ A53.out).mono ?_); rintro e w60 ⟨rfl, hb⟩; refine ⟨_, rfl, ?_⟩; have n0_ := Aside0.mk (Kd.R_below (by (with_reducible repeat (first | apply Kd.R_alloc | apply Kd.R_drewN | apply Kd.R_drew)); exact HO383.out) hb); have n1_ := Aside0.mk (blk_below (g := gb380) (o := .cells #[.slice Ao57 t381.length co57] 24 (0, 0)) (by (with_reducible repeat (first | refine blk_drewN ?_ _ | refine blk_drew ?_ | refine blk_alloc ?_ _)); exact BK380.out) hb); have n2_ := Aside0.mk (below_step (by repeat (first | (with_reducible first | exact HB.out | apply below_alloc | apply pw_below_drewN | apply below_drew1 | refine below_set ?_ GE380.out) | exact HB.out)) hb); clear HO383; clear BK380; clear HB; have HO383 := n0_; have BK380 := n1_; have HB := n2_; clear n0_ n1_ n2_; (try clear hb); (try clear hb2); (try clear hk); (try clear hi)))
    go_ret
    exact ⟨by first | rfl | (simp [errW_none, errW_some] <;> rfl) | (simp [*, errW_none, errW_some] <;> rfl), by repeat (first | (with_reducible first | exact HB.out | apply below_alloc | apply pw_below_drewN | apply below_drew1 | refine below_set ?_ GE380.out) | exact HB.out)⟩

end Go.Proofs.YtjneghnknfhboaaDoor.P
