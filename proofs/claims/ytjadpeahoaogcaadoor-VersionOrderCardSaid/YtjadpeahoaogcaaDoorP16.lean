-- Written by this project's own program (wip/tools/hp.py), driving the kit's print; hand texts among it. Not trusted: Lean checks it.
import Derived.Test.YtjadpeahoaogcaaDoorP0
import Derived.Test.YtjadpeahoaogcaaDoorP2
import Derived.Test.YtjadpeahoaogcaaDoorP14
import Derived.Test.YtjadpeahoaogcaaDoorP15
namespace Go.Proofs.YtjadpeahoaogcaaDoor.P
open Go.RowKit Go.Proofs.YtjadpeahoaogcaaDoorW.PrintWords Go.Proofs.YtjadpeahoaogcaaDoorW.PrintLast Go.Proofs.YtjadpeahoaogcaaDoorW.PrintMore
attribute [local go_sem] max2_int min2_int max_two min_two max_three min_three max_four min_four   -- for this text's walks alone
set_option linter.unusedVariables false
set_option linter.unusedSimpArgs false

/-! ### graftwoodlaw03_VersionOrder: function 3 -/
def graftwoodlaw03_VersionOrder.j0 : Nat → ByteArray → ByteArray → ByteArray → Int → Int → Int → Int → Int → Bool → Option (Bool)
  | 0, _, _, _, _, _, _, _, _, _ => none
  | k + 1, x0, x1, x2, x7, x9, x10, x11, x13, x54 => if x54 = true then ((version_May.f k x0).bind fun t221 => (if t221 = true then ((version_May.f k x1).bind fun t222 => (if t222 = true then ((version_May.f k x2).bind fun t223 => (if t223 = true then (some false) else ((graftwoodlaw03_awake.f k).bind fun t224 => (some t224)))) else ((graftwoodlaw03_awake.f k).bind fun t225 => (some t225)))) else ((graftwoodlaw03_awake.f k).bind fun t226 => (some t226)))) else (if x10 = 0 then (if x7 = (wrap64 (-x9)) then (if ((x7 == 0) == (x0.toList == x1.toList)) = true then (if x7 > 0 then (if x7 ≥ 0 then ((graftwoodlaw03_awake.f k).bind fun t227 => (some t227)) else (if x11 > 0 then ((graftwoodlaw03_awake.f k).bind fun t228 => (some t228)) else (if x13 < 0 then ((graftwoodlaw03_awake.f k).bind fun t229 => (some t229)) else (some false)))) else (if x11 > 0 then (if x7 ≥ 0 then (if x11 ≥ 0 then ((graftwoodlaw03_awake.f k).bind fun t230 => (some t230)) else (if x13 < 0 then ((graftwoodlaw03_awake.f k).bind fun t231 => (some t231)) else (some false))) else (if x11 ≥ 0 then ((graftwoodlaw03_awake.f k).bind fun t232 => (some t232)) else (if x13 < 0 then ((graftwoodlaw03_awake.f k).bind fun t233 => (some t233)) else (some false)))) else (if x13 ≤ 0 then (if x7 ≥ 0 then (if x11 ≥ 0 then ((graftwoodlaw03_awake.f k).bind fun t234 => (some t234)) else (if x13 < 0 then ((graftwoodlaw03_awake.f k).bind fun t235 => (some t235)) else (some false))) else (if x13 < 0 then (if x11 ≥ 0 then ((graftwoodlaw03_awake.f k).bind fun t236 => (some t236)) else ((graftwoodlaw03_awake.f k).bind fun t237 => (some t237))) else (some false))) else (some false)))) else (some false)) else (some false)) else (some false))
def graftwoodlaw03_VersionOrder.f (k : Nat) (a0 : ByteArray) (a1 : ByteArray) (a2 : ByteArray) : Option (Bool) := (graftwoodlaw01_Few.f a0).bind fun t210 => ((graftwoodlaw01_Few.f a1).bind fun t211 => ((graftwoodlaw01_Few.f a2).bind fun t212 => ((version_Cmp.f k t210 t211).bind fun bt213 => ((version_Cmp.f k t211 t210).bind fun bt215 => ((version_Cmp.f k t211 t212).bind fun bt217 => ((version_Cmp.f k t210 t212).bind fun bt219 => (if bt213.2 = 0 then (if bt217.2 = 0 then (graftwoodlaw03_VersionOrder.j0 k t210 t211 t212 bt213.1 bt215.1 bt215.2 bt217.1 bt219.1 (bt219.2 != 0)) else (graftwoodlaw03_VersionOrder.j0 k t210 t211 t212 bt213.1 bt215.1 bt215.2 bt217.1 bt219.1 true)) else (graftwoodlaw03_VersionOrder.j0 k t210 t211 t212 bt213.1 bt215.1 bt215.2 bt217.1 bt219.1 true))))))))
theorem graftwoodlaw03_VersionOrder.mono_l : ∀ k, (∀ y0 y1 y2 y3 y4 y5 y6 y7 y8, LeO (graftwoodlaw03_VersionOrder.j0 k y0 y1 y2 y3 y4 y5 y6 y7 y8) (graftwoodlaw03_VersionOrder.j0 (k + 1) y0 y1 y2 y3 y4 y5 y6 y7 y8))
  | 0 => fun _ _ _ _ _ _ _ _ _ r h => by simp [graftwoodlaw03_VersionOrder.j0] at h
  | k + 1 => by
    have ih0 := graftwoodlaw03_VersionOrder.mono_l k
    · intro y0 y1 y2 y3 y4 y5 y6 y7 y8
      unfold graftwoodlaw03_VersionOrder.j0
      repeat' first
      | (with_reducible exact ih0 _ _ _ _ _ _ _ _ _)
      | (with_reducible exact graftwoodlaw03_awake.mono _)
      | (with_reducible exact version_Cmp.mono _ _ _)
      | (with_reducible exact version_May.mono _ _)
      | (with_reducible exact LeO.refl _)
      | (with_reducible exact LeO.none _)
      | (with_reducible refine LeO.ite ?_ ?_)
      | (with_reducible refine LeO.bind ?_ (fun _ => ?_))
      | exact ih0 _ _ _ _ _ _ _ _ _
      | exact graftwoodlaw03_awake.mono _
      | exact version_Cmp.mono _ _ _
      | exact version_May.mono _ _
      | exact LeO.none _
      | refine LeO.ite ?_ ?_
      | refine LeO.bind ?_ (fun _ => ?_)
theorem graftwoodlaw03_VersionOrder.mono : ∀ a0 a1 a2 k, LeO (graftwoodlaw03_VersionOrder.f k a0 a1 a2) (graftwoodlaw03_VersionOrder.f (k + 1) a0 a1 a2) := by
  intro a0 a1 a2 k
  have ih0 := graftwoodlaw03_VersionOrder.mono_l k
  unfold graftwoodlaw03_VersionOrder.f
  repeat' first
      | (with_reducible exact ih0 _ _ _ _ _ _ _ _ _)
      | (with_reducible exact graftwoodlaw03_awake.mono _)
      | (with_reducible exact version_Cmp.mono _ _ _)
      | (with_reducible exact version_May.mono _ _)
      | (with_reducible exact LeO.refl _)
      | (with_reducible exact LeO.none _)
      | (with_reducible refine LeO.ite ?_ ?_)
      | (with_reducible refine LeO.bind ?_ (fun _ => ?_))
      | exact ih0 _ _ _ _ _ _ _ _ _
      | exact graftwoodlaw03_awake.mono _
      | exact version_Cmp.mono _ _ _
      | exact version_May.mono _ _
      | exact LeO.none _
      | refine LeO.ite ?_ ?_
      | refine LeO.bind ?_ (fun _ => ?_)
set_option maxHeartbeats 8000000 in
set_option maxRecDepth 100000 in
theorem graftwoodlaw03_VersionOrder.calls (k : Nat) (a0 : ByteArray) (a1 : ByteArray) (a2 : ByteArray) (r : Bool) (w : World) (h : graftwoodlaw03_VersionOrder.f k a0 a1 a2 = some r) :
    Calls Tryd.prog 3 #[.string a0, .string a1, .string a2] w fun e w' => e = .returned (.bool r) ∧ Below w.heap.size w w' := by
  have HB := Aside0.mk (Below.refl w.heap.size w)
  have H : ((graftwoodlaw01_Few.f a0).bind fun t210 => ((graftwoodlaw01_Few.f a1).bind fun t211 => ((graftwoodlaw01_Few.f a2).bind fun t212 => ((version_Cmp.f k t210 t211).bind fun bt213 => ((version_Cmp.f k t211 t210).bind fun bt215 => ((version_Cmp.f k t211 t212).bind fun bt217 => ((version_Cmp.f k t210 t212).bind fun bt219 => (if bt213.2 = 0 then (if bt217.2 = 0 then (graftwoodlaw03_VersionOrder.j0 k t210 t211 t212 bt213.1 bt215.1 bt215.2 bt217.1 bt219.1 (bt219.2 != 0)) else (graftwoodlaw03_VersionOrder.j0 k t210 t211 t212 bt213.1 bt215.1 bt215.2 bt217.1 bt219.1 true)) else (graftwoodlaw03_VersionOrder.j0 k t210 t211 t212 bt213.1 bt215.1 bt215.2 bt217.1 bt219.1 true))))))))) = some r := h
  clear h
  replace H := Option.bind_eq_some_iff.mp H
  obtain ⟨t210, A40, H⟩ := H
  replace H : ((graftwoodlaw01_Few.f a1).bind fun t211 => ((graftwoodlaw01_Few.f a2).bind fun t212 => ((version_Cmp.f k t210 t211).bind fun bt213 => ((version_Cmp.f k t211 t210).bind fun bt215 => ((version_Cmp.f k t211 t212).bind fun bt217 => ((version_Cmp.f k t210 t212).bind fun bt219 => (if bt213.2 = 0 then (if bt217.2 = 0 then (graftwoodlaw03_VersionOrder.j0 k t210 t211 t212 bt213.1 bt215.1 bt215.2 bt217.1 bt219.1 (bt219.2 != 0)) else (graftwoodlaw03_VersionOrder.j0 k t210 t211 t212 bt213.1 bt215.1 bt215.2 bt217.1 bt219.1 true)) else (graftwoodlaw03_VersionOrder.j0 k t210 t211 t212 bt213.1 bt215.1 bt215.2 bt217.1 bt219.1 true)))))))) = some r := H
  have A4 := Aside0.mk A40
  clear A40
  replace H := Option.bind_eq_some_iff.mp H
  obtain ⟨t211, A50, H⟩ := H
  replace H : ((graftwoodlaw01_Few.f a2).bind fun t212 => ((version_Cmp.f k t210 t211).bind fun bt213 => ((version_Cmp.f k t211 t210).bind fun bt215 => ((version_Cmp.f k t211 t212).bind fun bt217 => ((version_Cmp.f k t210 t212).bind fun bt219 => (if bt213.2 = 0 then (if bt217.2 = 0 then (graftwoodlaw03_VersionOrder.j0 k t210 t211 t212 bt213.1 bt215.1 bt215.2 bt217.1 bt219.1 (bt219.2 != 0)) else (graftwoodlaw03_VersionOrder.j0 k t210 t211 t212 bt213.1 bt215.1 bt215.2 bt217.1 bt219.1 true)) else (graftwoodlaw03_VersionOrder.j0 k t210 t211 t212 bt213.1 bt215.1 bt215.2 bt217.1 bt219.1 true))))))) = some r := H
  have A5 := Aside0.mk A50
  clear A50
  replace H := Option.bind_eq_some_iff.mp H
  obtain ⟨t212, A60, H⟩ := H
  replace H : ((version_Cmp.f k t210 t211).bind fun bt213 => ((version_Cmp.f k t211 t210).bind fun bt215 => ((version_Cmp.f k t211 t212).bind fun bt217 => ((version_Cmp.f k t210 t212).bind fun bt219 => (if bt213.2 = 0 then (if bt217.2 = 0 then (graftwoodlaw03_VersionOrder.j0 k t210 t211 t212 bt213.1 bt215.1 bt215.2 bt217.1 bt219.1 (bt219.2 != 0)) else (graftwoodlaw03_VersionOrder.j0 k t210 t211 t212 bt213.1 bt215.1 bt215.2 bt217.1 bt219.1 true)) else (graftwoodlaw03_VersionOrder.j0 k t210 t211 t212 bt213.1 bt215.1 bt215.2 bt217.1 bt219.1 true)))))) = some r := H
  have A6 := Aside0.mk A60
  clear A60
  replace H := Option.bind_eq_some_iff.mp H
  obtain ⟨⟨t213, t214⟩, A70, H⟩ := H
  replace H : ((version_Cmp.f k t211 t210).bind fun bt215 => ((version_Cmp.f k t211 t212).bind fun bt217 => ((version_Cmp.f k t210 t212).bind fun bt219 => (if t214 = 0 then (if bt217.2 = 0 then (graftwoodlaw03_VersionOrder.j0 k t210 t211 t212 t213 bt215.1 bt215.2 bt217.1 bt219.1 (bt219.2 != 0)) else (graftwoodlaw03_VersionOrder.j0 k t210 t211 t212 t213 bt215.1 bt215.2 bt217.1 bt219.1 true)) else (graftwoodlaw03_VersionOrder.j0 k t210 t211 t212 t213 bt215.1 bt215.2 bt217.1 bt219.1 true))))) = some r := H
  have A7 := Aside0.mk A70
  clear A70
  replace H := Option.bind_eq_some_iff.mp H
  obtain ⟨⟨t215, t216⟩, A80, H⟩ := H
  replace H : ((version_Cmp.f k t211 t212).bind fun bt217 => ((version_Cmp.f k t210 t212).bind fun bt219 => (if t214 = 0 then (if bt217.2 = 0 then (graftwoodlaw03_VersionOrder.j0 k t210 t211 t212 t213 t215 t216 bt217.1 bt219.1 (bt219.2 != 0)) else (graftwoodlaw03_VersionOrder.j0 k t210 t211 t212 t213 t215 t216 bt217.1 bt219.1 true)) else (graftwoodlaw03_VersionOrder.j0 k t210 t211 t212 t213 t215 t216 bt217.1 bt219.1 true)))) = some r := H
  have A8 := Aside0.mk A80
  clear A80
  replace H := Option.bind_eq_some_iff.mp H
  obtain ⟨⟨t217, t218⟩, A90, H⟩ := H
  replace H : ((version_Cmp.f k t210 t212).bind fun bt219 => (if t214 = 0 then (if t218 = 0 then (graftwoodlaw03_VersionOrder.j0 k t210 t211 t212 t213 t215 t216 t217 bt219.1 (bt219.2 != 0)) else (graftwoodlaw03_VersionOrder.j0 k t210 t211 t212 t213 t215 t216 t217 bt219.1 true)) else (graftwoodlaw03_VersionOrder.j0 k t210 t211 t212 t213 t215 t216 t217 bt219.1 true))) = some r := H
  have A9 := Aside0.mk A90
  clear A90
  replace H := Option.bind_eq_some_iff.mp H
  obtain ⟨⟨t219, t220⟩, A100, H⟩ := H
  replace H : (if t214 = 0 then (if t218 = 0 then (graftwoodlaw03_VersionOrder.j0 k t210 t211 t212 t213 t215 t216 t217 t219 (t220 != 0)) else (graftwoodlaw03_VersionOrder.j0 k t210 t211 t212 t213 t215 t216 t217 t219 true)) else (graftwoodlaw03_VersionOrder.j0 k t210 t211 t212 t213 t215 t216 t217 t219 true)) = some r := H
  have A10 := Aside0.mk A100
  clear A100
  have HC11 := Aside0.mk H
  clear H
  go_enter Tryd.func3, Tryd.ntmps3
  go_upto_region 6 with (first | ((with_reducible refine gate_callee (f := 10) rfl ?_); refine goesL_ (some 16) rfl rfl Tryd.func10 (by kernel_rfl) rfl #[.string a0] rfl (by (try simp only [List.map_toArray, List.map_cons, List.map_nil]); first | done | rfl | (simp only [List.length_drop, List.length_take]; rfl)) ?_; (with_reducible refine (graftwoodlaw01_Few.calls a0 t210 _ A4.out).mono ?_); rintro e w' ⟨rfl, ⟨nd, rfl⟩⟩; refine ⟨_, rfl, ?_⟩) | ((with_reducible refine gate_callee (f := 10) rfl ?_); refine goesL_ (some 18) rfl rfl Tryd.func10 (by kernel_rfl) rfl #[.string a1] rfl (by (try simp only [List.map_toArray, List.map_cons, List.map_nil]); first | done | rfl | (simp only [List.length_drop, List.length_take]; rfl)) ?_; (with_reducible refine (graftwoodlaw01_Few.calls a1 t211 _ A5.out).mono ?_); rintro e w' ⟨rfl, ⟨nd, rfl⟩⟩; refine ⟨_, rfl, ?_⟩) | ((with_reducible refine gate_callee (f := 10) rfl ?_); refine goesL_ (some 20) rfl rfl Tryd.func10 (by kernel_rfl) rfl #[.string a2] rfl (by (try simp only [List.map_toArray, List.map_cons, List.map_nil]); first | done | rfl | (simp only [List.length_drop, List.length_take]; rfl)) ?_; (with_reducible refine (graftwoodlaw01_Few.calls a2 t212 _ A6.out).mono ?_); rintro e w' ⟨rfl, ⟨nd, rfl⟩⟩; refine ⟨_, rfl, ?_⟩) | ((with_reducible refine gate_callee (f := 11) rfl ?_); refine goesL_ (some 24) rfl rfl Tryd.func11 (by kernel_rfl) rfl #[.string t210, .string t211] rfl (by (try simp only [List.map_toArray, List.map_cons, List.map_nil]); first | done | rfl | (simp only [List.length_drop, List.length_take]; rfl)) ?_; (with_reducible refine (version_Cmp.calls k t210 t211 t213 t214 _ A7.out).mono ?_); rintro e w12 ⟨rfl, hb⟩; refine ⟨_, rfl, ?_⟩; have n0_ := Aside0.mk (below_step (by repeat (first | (with_reducible first | exact HB.out | apply below_alloc | apply pw_below_drewN | apply below_drew1) | exact HB.out)) hb); clear HB; have HB := n0_; clear n0_; (try clear hb); (try clear hb2); (try clear hk); (try clear hi)) | ((with_reducible refine gate_callee (f := 11) rfl ?_); refine goesL_ (some 30) rfl rfl Tryd.func11 (by kernel_rfl) rfl #[.string t211, .string t210] rfl (by (try simp only [List.map_toArray, List.map_cons, List.map_nil]); first | done | rfl | (simp only [List.length_drop, List.length_take]; rfl)) ?_; (with_reducible refine (version_Cmp.calls k t211 t210 t215 t216 _ A8.out).mono ?_); rintro e w13 ⟨rfl, hb⟩; refine ⟨_, rfl, ?_⟩; have n0_ := Aside0.mk (below_step (by repeat (first | (with_reducible first | exact HB.out | apply below_alloc | apply pw_below_drewN | apply below_drew1) | exact HB.out)) hb); clear HB; have HB := n0_; clear n0_; (try clear hb); (try clear hb2); (try clear hk); (try clear hi)) | ((with_reducible refine gate_callee (f := 11) rfl ?_); refine goesL_ (some 36) rfl rfl Tryd.func11 (by kernel_rfl) rfl #[.string t211, .string t212] rfl (by (try simp only [List.map_toArray, List.map_cons, List.map_nil]); first | done | rfl | (simp only [List.length_drop, List.length_take]; rfl)) ?_; (with_reducible refine (version_Cmp.calls k t211 t212 t217 t218 _ A9.out).mono ?_); rintro e w14 ⟨rfl, hb⟩; refine ⟨_, rfl, ?_⟩; have n0_ := Aside0.mk (below_step (by repeat (first | (with_reducible first | exact HB.out | apply below_alloc | apply pw_below_drewN | apply below_drew1) | exact HB.out)) hb); clear HB; have HB := n0_; clear n0_; (try clear hb); (try clear hb2); (try clear hk); (try clear hi)) | ((with_reducible refine gate_callee (f := 11) rfl ?_); refine goesL_ (some 42) rfl rfl Tryd.func11 (by kernel_rfl) rfl #[.string t210, .string t212] rfl (by (try simp only [List.map_toArray, List.map_cons, List.map_nil]); first | done | rfl | (simp only [List.length_drop, List.length_take]; rfl)) ?_; (with_reducible refine (version_Cmp.calls k t210 t212 t219 t220 _ A10.out).mono ?_); rintro e w15 ⟨rfl, hb⟩; refine ⟨_, rfl, ?_⟩; have n0_ := Aside0.mk (below_step (by repeat (first | (with_reducible first | exact HB.out | apply below_alloc | apply pw_below_drewN | apply below_drew1) | exact HB.out)) hb); clear HB; have HB := n0_; clear n0_; (try clear hb); (try clear hb2); (try clear hk); (try clear hi)))
  (try simp only [Act.put, List.setIfInBounds_toArray, List.set_cons_zero, List.set_cons_succ])
  go_cut [54] (fun v54 wc => ∃ (kq : Nat) (x54_10 : Bool), v54 = .bool x54_10 ∧ Aside0 (graftwoodlaw03_VersionOrder.j0 kq t210 t211 t212 t213 t215 t216 t217 t219 x54_10 = some r) ∧ Aside0 (kq ≤ k) ∧ Aside0 (Below w.heap.size w wc))
  case first =>
    have H := HC11.out
    clear HC11
    by_cases c16 : t214 = 0
    · rw [if_pos c16] at H
      have c16b0 : (t214 == 0) = true := beq_iff_eq.mpr c16
      have c16b1 : (t214 != 0) = false := bne_eq_false_iff_eq.mpr c16
      clear c16
      (first | rw [c16b0] | (simp only [i64_w, i32_w]; rw [c16b0]) | skip)
      by_cases c17 : t218 = 0
      · rw [if_pos c17] at H
        have c17b0 : (t218 == 0) = true := beq_iff_eq.mpr c17
        have c17b1 : (t218 != 0) = false := bne_eq_false_iff_eq.mpr c17
        clear c17
        have H' := Aside0.mk H
        clear H
        go_wp2
        go_meet
        case rel => exact ⟨_, ((t220 != 0)), (by first | rfl | (simp; done) | (simp [*]; done)), H', ⟨by first | omega | exact Nat.le_refl _⟩, ⟨by repeat (first | (with_reducible first | exact HB.out | apply below_alloc | apply pw_below_drewN | apply below_drew1) | exact HB.out)⟩⟩
      · rw [if_neg c17] at H
        have c17b0 : (t218 == 0) = false := beq_eq_false_iff_ne.mpr c17
        have c17b1 : (t218 != 0) = true := bne_iff_ne.mpr c17
        have H' := Aside0.mk H
        clear H
        go_wp2
        go_meet
        case rel => exact ⟨_, (true), (by first | rfl | (simp; done) | (simp [*]; done)), H', ⟨by first | omega | exact Nat.le_refl _⟩, ⟨by repeat (first | (with_reducible first | exact HB.out | apply below_alloc | apply pw_below_drewN | apply below_drew1) | exact HB.out)⟩⟩
    · rw [if_neg c16] at H
      have c16b0 : (t214 == 0) = false := beq_eq_false_iff_ne.mpr c16
      have c16b1 : (t214 != 0) = true := bne_iff_ne.mpr c16
      (first | rw [c16b0] | (simp only [i64_w, i32_w]; rw [c16b0]) | skip)
      have H' := Aside0.mk H
      clear H
      go_wp2
      go_meet
      case rel => exact ⟨_, (true), (by first | rfl | (simp; done) | (simp [*]; done)), H', ⟨by first | omega | exact Nat.le_refl _⟩, ⟨by repeat (first | (with_reducible first | exact HB.out | apply below_alloc | apply pw_below_drewN | apply below_drew1) | exact HB.out)⟩⟩
  case rest =>
    clear HC11
    try clear c1
    try clear p2
    try clear c3
    try clear c10
    try clear c11
    try clear c16
    try clear c16b0
    try clear c16b1
    try clear c17
    try clear c17b0
    try clear c17b1
    obtain ⟨kq, x54_10, rfl, HA, HJ10, HB⟩ := hcut
    cases kq with
    | zero => exact absurd HA.out (by simp [graftwoodlaw03_VersionOrder.j0])
    | succ kj10 =>
      have H := HA.out
      clear HA
      simp only [graftwoodlaw03_VersionOrder.j0] at H
      by_cases c18 : x54_10 = true
      · subst c18
        have H1 : ((version_May.f kj10 t210).bind fun t221 => (if t221 = true then ((version_May.f kj10 t211).bind fun t222 => (if t222 = true then ((version_May.f kj10 t212).bind fun t223 => (if t223 = true then (some false) else ((graftwoodlaw03_awake.f kj10).bind fun t224 => (some t224)))) else ((graftwoodlaw03_awake.f kj10).bind fun t225 => (some t225)))) else ((graftwoodlaw03_awake.f kj10).bind fun t226 => (some t226)))) = some r := by rw [if_pos rfl] at H; exact H
        clear H
        have H := H1
        clear H1
        replace H := Option.bind_eq_some_iff.mp H
        obtain ⟨t221, A190, H⟩ := H
        replace H : (if t221 = true then ((version_May.f kj10 t211).bind fun t222 => (if t222 = true then ((version_May.f kj10 t212).bind fun t223 => (if t223 = true then (some false) else ((graftwoodlaw03_awake.f kj10).bind fun t224 => (some t224)))) else ((graftwoodlaw03_awake.f kj10).bind fun t225 => (some t225)))) else ((graftwoodlaw03_awake.f kj10).bind fun t226 => (some t226))) = some r := H
        have A19 := Aside0.mk A190
        clear A190
        by_cases c20 : t221 = true
        · subst c20
          have H1 : ((version_May.f kj10 t211).bind fun t222 => (if t222 = true then ((version_May.f kj10 t212).bind fun t223 => (if t223 = true then (some false) else ((graftwoodlaw03_awake.f kj10).bind fun t224 => (some t224)))) else ((graftwoodlaw03_awake.f kj10).bind fun t225 => (some t225)))) = some r := by rw [if_pos rfl] at H; exact H
          clear H
          have H := H1
          clear H1
          replace H := Option.bind_eq_some_iff.mp H
          obtain ⟨t222, A210, H⟩ := H
          replace H : (if t222 = true then ((version_May.f kj10 t212).bind fun t223 => (if t223 = true then (some false) else ((graftwoodlaw03_awake.f kj10).bind fun t224 => (some t224)))) else ((graftwoodlaw03_awake.f kj10).bind fun t225 => (some t225))) = some r := H
          have A21 := Aside0.mk A210
          clear A210
          by_cases c22 : t222 = true
          · subst c22
            have H1 : ((version_May.f kj10 t212).bind fun t223 => (if t223 = true then (some false) else ((graftwoodlaw03_awake.f kj10).bind fun t224 => (some t224)))) = some r := by rw [if_pos rfl] at H; exact H
            clear H
            have H := H1
            clear H1
            replace H := Option.bind_eq_some_iff.mp H
            obtain ⟨t223, A230, H⟩ := H
            replace H : (if t223 = true then (some false) else ((graftwoodlaw03_awake.f kj10).bind fun t224 => (some t224))) = some r := H
            have A23 := Aside0.mk A230
            clear A230
            by_cases c24 : t223 = true
            · subst c24
              have H1 : (some false) = some r := by rw [if_pos rfl] at H; exact H
              clear H
              have H := H1
              clear H1
              obtain rfl := Option.some.inj H
              go_wp2_with (first | ((with_reducible refine gate_callee (f := 12) rfl ?_); refine goesL_ (some 56) rfl rfl Tryd.func12 (by kernel_rfl) rfl #[.string t210] rfl (by (try simp only [List.map_toArray, List.map_cons, List.map_nil]); first | done | rfl | (simp only [List.length_drop, List.length_take]; rfl)) ?_; (with_reducible refine (version_May.calls kj10 t210 true _ A19.out).mono ?_); rintro e w25 ⟨rfl, hb⟩; refine ⟨_, rfl, ?_⟩; have n0_ := Aside0.mk (below_step (by repeat (first | (with_reducible first | exact HB.out | apply below_alloc | apply pw_below_drewN | apply below_drew1) | exact HB.out)) hb); clear HB; have HB := n0_; clear n0_; (try clear hb); (try clear hb2); (try clear hk); (try clear hi)) | (go_at_call 12; (with_reducible refine (version_May.calls kj10 t211 true _ A21.out).mono ?_); rintro e w26 ⟨rfl, hb⟩; have n0_ := Aside0.mk (below_step (by repeat (first | (with_reducible first | exact HB.out | apply below_alloc | apply pw_below_drewN | apply below_drew1) | exact HB.out)) hb); clear HB; have HB := n0_; clear n0_; (try clear hb); (try clear hb2); (try clear hk); (try clear hi)) | (go_at_call 12; (with_reducible refine (version_May.calls kj10 t212 true _ A23.out).mono ?_); rintro e w27 ⟨rfl, hb⟩; have n0_ := Aside0.mk (below_step (by repeat (first | (with_reducible first | exact HB.out | apply below_alloc | apply pw_below_drewN | apply below_drew1) | exact HB.out)) hb); clear HB; have HB := n0_; clear n0_; (try clear hb); (try clear hb2); (try clear hk); (try clear hi)))
              go_ret
              exact ⟨by first | rfl | (simp [errW_none, errW_some] <;> rfl) | (simp [*, errW_none, errW_some] <;> rfl), by repeat (first | (with_reducible first | exact HB.out | apply below_alloc | apply pw_below_drewN | apply below_drew1) | exact HB.out)⟩
            · replace c24 := Bool.eq_false_iff.mpr c24
              subst c24
              have H1 : ((graftwoodlaw03_awake.f kj10).bind fun t224 => (some t224)) = some r := by rw [if_neg (show ¬ (false = true) by decide)] at H; exact H
              clear H
              have H := H1
              clear H1
              replace H := Option.bind_eq_some_iff.mp H
              obtain ⟨t224, A280, H⟩ := H
              replace H : (some t224) = some r := H
              have A28 := Aside0.mk A280
              clear A280
              obtain rfl := Option.some.inj H
              go_wp2_with (first | ((with_reducible refine gate_callee (f := 12) rfl ?_); refine goesL_ (some 56) rfl rfl Tryd.func12 (by kernel_rfl) rfl #[.string t210] rfl (by (try simp only [List.map_toArray, List.map_cons, List.map_nil]); first | done | rfl | (simp only [List.length_drop, List.length_take]; rfl)) ?_; (with_reducible refine (version_May.calls kj10 t210 true _ A19.out).mono ?_); rintro e w29 ⟨rfl, hb⟩; refine ⟨_, rfl, ?_⟩; have n0_ := Aside0.mk (below_step (by repeat (first | (with_reducible first | exact HB.out | apply below_alloc | apply pw_below_drewN | apply below_drew1) | exact HB.out)) hb); clear HB; have HB := n0_; clear n0_; (try clear hb); (try clear hb2); (try clear hk); (try clear hi)) | (go_at_call 12; (with_reducible refine (version_May.calls kj10 t211 true _ A21.out).mono ?_); rintro e w30 ⟨rfl, hb⟩; have n0_ := Aside0.mk (below_step (by repeat (first | (with_reducible first | exact HB.out | apply below_alloc | apply pw_below_drewN | apply below_drew1) | exact HB.out)) hb); clear HB; have HB := n0_; clear n0_; (try clear hb); (try clear hb2); (try clear hk); (try clear hi)) | (go_at_call 12; (with_reducible refine (version_May.calls kj10 t212 false _ A23.out).mono ?_); rintro e w31 ⟨rfl, hb⟩; have n0_ := Aside0.mk (below_step (by repeat (first | (with_reducible first | exact HB.out | apply below_alloc | apply pw_below_drewN | apply below_drew1) | exact HB.out)) hb); clear HB; have HB := n0_; clear n0_; (try clear hb); (try clear hb2); (try clear hk); (try clear hi)) | (go_at_call 13; (with_reducible refine (graftwoodlaw03_awake.calls kj10  t224 _ A28.out).mono ?_); rintro e w32 ⟨rfl, hb⟩; have n0_ := Aside0.mk (below_step (by repeat (first | (with_reducible first | exact HB.out | apply below_alloc | apply pw_below_drewN | apply below_drew1) | exact HB.out)) hb); clear HB; have HB := n0_; clear n0_; (try clear hb); (try clear hb2); (try clear hk); (try clear hi)))
              go_ret
              exact ⟨by first | rfl | (simp [errW_none, errW_some] <;> rfl) | (simp [*, errW_none, errW_some] <;> rfl), by repeat (first | (with_reducible first | exact HB.out | apply below_alloc | apply pw_below_drewN | apply below_drew1) | exact HB.out)⟩
          · replace c22 := Bool.eq_false_iff.mpr c22
            subst c22
            have H1 : ((graftwoodlaw03_awake.f kj10).bind fun t225 => (some t225)) = some r := by rw [if_neg (show ¬ (false = true) by decide)] at H; exact H
            clear H
            have H := H1
            clear H1
            replace H := Option.bind_eq_some_iff.mp H
            obtain ⟨t225, A330, H⟩ := H
            replace H : (some t225) = some r := H
            have A33 := Aside0.mk A330
            clear A330
            obtain rfl := Option.some.inj H
            go_wp2_with (first | ((with_reducible refine gate_callee (f := 12) rfl ?_); refine goesL_ (some 56) rfl rfl Tryd.func12 (by kernel_rfl) rfl #[.string t210] rfl (by (try simp only [List.map_toArray, List.map_cons, List.map_nil]); first | done | rfl | (simp only [List.length_drop, List.length_take]; rfl)) ?_; (with_reducible refine (version_May.calls kj10 t210 true _ A19.out).mono ?_); rintro e w34 ⟨rfl, hb⟩; refine ⟨_, rfl, ?_⟩; have n0_ := Aside0.mk (below_step (by repeat (first | (with_reducible first | exact HB.out | apply below_alloc | apply pw_below_drewN | apply below_drew1) | exact HB.out)) hb); clear HB; have HB := n0_; clear n0_; (try clear hb); (try clear hb2); (try clear hk); (try clear hi)) | (go_at_call 12; (with_reducible refine (version_May.calls kj10 t211 false _ A21.out).mono ?_); rintro e w35 ⟨rfl, hb⟩; have n0_ := Aside0.mk (below_step (by repeat (first | (with_reducible first | exact HB.out | apply below_alloc | apply pw_below_drewN | apply below_drew1) | exact HB.out)) hb); clear HB; have HB := n0_; clear n0_; (try clear hb); (try clear hb2); (try clear hk); (try clear hi)) | (go_at_call 13; (with_reducible refine (graftwoodlaw03_awake.calls kj10  t225 _ A33.out).mono ?_); rintro e w36 ⟨rfl, hb⟩; have n0_ := Aside0.mk (below_step (by repeat (first | (with_reducible first | exact HB.out | apply below_alloc | apply pw_below_drewN | apply below_drew1) | exact HB.out)) hb); clear HB; have HB := n0_; clear n0_; (try clear hb); (try clear hb2); (try clear hk); (try clear hi)))
            go_ret
            exact ⟨by first | rfl | (simp [errW_none, errW_some] <;> rfl) | (simp [*, errW_none, errW_some] <;> rfl), by repeat (first | (with_reducible first | exact HB.out | apply below_alloc | apply pw_below_drewN | apply below_drew1) | exact HB.out)⟩
        · replace c20 := Bool.eq_false_iff.mpr c20
          subst c20
          have H1 : ((graftwoodlaw03_awake.f kj10).bind fun t226 => (some t226)) = some r := by rw [if_neg (show ¬ (false = true) by decide)] at H; exact H
          clear H
          have H := H1
          clear H1
          replace H := Option.bind_eq_some_iff.mp H
          obtain ⟨t226, A370, H⟩ := H
          replace H : (some t226) = some r := H
          have A37 := Aside0.mk A370
          clear A370
          obtain rfl := Option.some.inj H
          go_wp2_with (first | ((with_reducible refine gate_callee (f := 12) rfl ?_); refine goesL_ (some 56) rfl rfl Tryd.func12 (by kernel_rfl) rfl #[.string t210] rfl (by (try simp only [List.map_toArray, List.map_cons, List.map_nil]); first | done | rfl | (simp only [List.length_drop, List.length_take]; rfl)) ?_; (with_reducible refine (version_May.calls kj10 t210 false _ A19.out).mono ?_); rintro e w38 ⟨rfl, hb⟩; refine ⟨_, rfl, ?_⟩; have n0_ := Aside0.mk (below_step (by repeat (first | (with_reducible first | exact HB.out | apply below_alloc | apply pw_below_drewN | apply below_drew1) | exact HB.out)) hb); clear HB; have HB := n0_; clear n0_; (try clear hb); (try clear hb2); (try clear hk); (try clear hi)) | (go_at_call 13; (with_reducible refine (graftwoodlaw03_awake.calls kj10  t226 _ A37.out).mono ?_); rintro e w39 ⟨rfl, hb⟩; have n0_ := Aside0.mk (below_step (by repeat (first | (with_reducible first | exact HB.out | apply below_alloc | apply pw_below_drewN | apply below_drew1) | exact HB.out)) hb); clear HB; have HB := n0_; clear n0_; (try clear hb); (try clear hb2); (try clear hk); (try clear hi)))
          go_ret
          exact ⟨by first | rfl | (simp [errW_none, errW_some] <;> rfl) | (simp [*, errW_none, errW_some] <;> rfl), by repeat (first | (with_reducible first | exact HB.out | apply below_alloc | apply pw_below_drewN | apply below_drew1) | exact HB.out)⟩
      · replace c18 := Bool.eq_false_iff.mpr c18
        subst c18
        have H1 : (if t216 = 0 then (if t213 = (wrap64 (-t215)) then (if ((t213 == 0) == (t210.toList == t211.toList)) = true then (if t213 > 0 then (if t213 ≥ 0 then ((graftwoodlaw03_awake.f kj10).bind fun t227 => (some t227)) else (if t217 > 0 then ((graftwoodlaw03_awake.f kj10).bind fun t228 => (some t228)) else (if t219 < 0 then ((graftwoodlaw03_awake.f kj10).bind fun t229 => (some t229)) else (some false)))) else (if t217 > 0 then (if t213 ≥ 0 then (if t217 ≥ 0 then ((graftwoodlaw03_awake.f kj10).bind fun t230 => (some t230)) else (if t219 < 0 then ((graftwoodlaw03_awake.f kj10).bind fun t231 => (some t231)) else (some false))) else (if t217 ≥ 0 then ((graftwoodlaw03_awake.f kj10).bind fun t232 => (some t232)) else (if t219 < 0 then ((graftwoodlaw03_awake.f kj10).bind fun t233 => (some t233)) else (some false)))) else (if t219 ≤ 0 then (if t213 ≥ 0 then (if t217 ≥ 0 then ((graftwoodlaw03_awake.f kj10).bind fun t234 => (some t234)) else (if t219 < 0 then ((graftwoodlaw03_awake.f kj10).bind fun t235 => (some t235)) else (some false))) else (if t219 < 0 then (if t217 ≥ 0 then ((graftwoodlaw03_awake.f kj10).bind fun t236 => (some t236)) else ((graftwoodlaw03_awake.f kj10).bind fun t237 => (some t237))) else (some false))) else (some false)))) else (some false)) else (some false)) else (some false)) = some r := by rw [if_neg (show ¬ (false = true) by decide)] at H; exact H
        clear H
        have H := H1
        clear H1
        by_cases c40 : t216 = 0
        · rw [if_pos c40] at H
          have c40b0 : (t216 == 0) = true := beq_iff_eq.mpr c40
          have c40b1 : (t216 != 0) = false := bne_eq_false_iff_eq.mpr c40
          clear c40
          by_cases c41 : t213 = (wrap64 (-t215))
          · rw [if_pos c41] at H
            have c41b0 : (t213 == (wrap64 (-t215))) = true := beq_iff_eq.mpr c41
            have c41b1 : (t213 != (wrap64 (-t215))) = false := bne_eq_false_iff_eq.mpr c41
            clear c41
            by_cases c42 : ((t213 == 0) == (t210.toList == t211.toList)) = true
            · rw [if_pos c42] at H
              have c42b0 : ((t213 == 0) == (t210.toList == t211.toList)) = true := c42
              (try (have c42b1 : decide ((t213 == 0) = (t210.toList == t211.toList)) = true := by simpa using c42))
              (try (have c42b2 : ((t213 == 0) == (t210.toList == t211.toList)) = true := by simpa using c42))
              clear c42
              by_cases c43 : t213 > 0
              · rw [if_pos c43] at H
                have c43b0 : decide (0 < t213) = true := decide_eq_true c43
                clear c43
                by_cases c44 : t213 ≥ 0
                · rw [if_pos c44] at H
                  have c44b0 : decide (0 ≤ t213) = true := decide_eq_true c44
                  clear c44
                  replace H := Option.bind_eq_some_iff.mp H
                  obtain ⟨t227, A450, H⟩ := H
                  replace H : (some t227) = some r := H
                  have A45 := Aside0.mk A450
                  clear A450
                  obtain rfl := Option.some.inj H
                  go_wp2_with (first | (go_at_call 13; (with_reducible refine (graftwoodlaw03_awake.calls kj10  t227 _ A45.out).mono ?_); rintro e w46 ⟨rfl, hb⟩; have n0_ := Aside0.mk (below_step (by repeat (first | (with_reducible first | exact HB.out | apply below_alloc | apply pw_below_drewN | apply below_drew1) | exact HB.out)) hb); clear HB; have HB := n0_; clear n0_; (try clear hb); (try clear hb2); (try clear hk); (try clear hi)))
                  go_ret
                  exact ⟨by first | rfl | (simp [errW_none, errW_some] <;> rfl) | (simp [*, errW_none, errW_some] <;> rfl), by repeat (first | (with_reducible first | exact HB.out | apply below_alloc | apply pw_below_drewN | apply below_drew1) | exact HB.out)⟩
                · rw [if_neg c44] at H
                  have c44b0 : decide (0 ≤ t213) = false := decide_eq_false c44
                  clear c44
                  by_cases c47 : t217 > 0
                  · rw [if_pos c47] at H
                    have c47b0 : decide (0 < t217) = true := decide_eq_true c47
                    clear c47
                    replace H := Option.bind_eq_some_iff.mp H
                    obtain ⟨t228, A480, H⟩ := H
                    replace H : (some t228) = some r := H
                    have A48 := Aside0.mk A480
                    clear A480
                    obtain rfl := Option.some.inj H
                    go_wp2_with (first | (go_at_call 13; (with_reducible refine (graftwoodlaw03_awake.calls kj10  t228 _ A48.out).mono ?_); rintro e w49 ⟨rfl, hb⟩; have n0_ := Aside0.mk (below_step (by repeat (first | (with_reducible first | exact HB.out | apply below_alloc | apply pw_below_drewN | apply below_drew1) | exact HB.out)) hb); clear HB; have HB := n0_; clear n0_; (try clear hb); (try clear hb2); (try clear hk); (try clear hi)))
                    go_ret
                    exact ⟨by first | rfl | (simp [errW_none, errW_some] <;> rfl) | (simp [*, errW_none, errW_some] <;> rfl), by repeat (first | (with_reducible first | exact HB.out | apply below_alloc | apply pw_below_drewN | apply below_drew1) | exact HB.out)⟩
                  · rw [if_neg c47] at H
                    have c47b0 : decide (0 < t217) = false := decide_eq_false c47
                    clear c47
                    by_cases c50 : t219 < 0
                    · rw [if_pos c50] at H
                      have c50b0 : decide (t219 < 0) = true := decide_eq_true c50
                      clear c50
                      replace H := Option.bind_eq_some_iff.mp H
                      obtain ⟨t229, A510, H⟩ := H
                      replace H : (some t229) = some r := H
                      have A51 := Aside0.mk A510
                      clear A510
                      obtain rfl := Option.some.inj H
                      go_wp2_with (first | (go_at_call 13; (with_reducible refine (graftwoodlaw03_awake.calls kj10  t229 _ A51.out).mono ?_); rintro e w52 ⟨rfl, hb⟩; have n0_ := Aside0.mk (below_step (by repeat (first | (with_reducible first | exact HB.out | apply below_alloc | apply pw_below_drewN | apply below_drew1) | exact HB.out)) hb); clear HB; have HB := n0_; clear n0_; (try clear hb); (try clear hb2); (try clear hk); (try clear hi)))
                      go_ret
                      exact ⟨by first | rfl | (simp [errW_none, errW_some] <;> rfl) | (simp [*, errW_none, errW_some] <;> rfl), by repeat (first | (with_reducible first | exact HB.out | apply below_alloc | apply pw_below_drewN | apply below_drew1) | exact HB.out)⟩
                    · rw [if_neg c50] at H
                      have c50b0 : decide (t219 < 0) = false := decide_eq_false c50
                      clear c50
                      obtain rfl := Option.some.inj H
                      go_wp2
                      go_ret
                      exact ⟨by first | rfl | (simp [errW_none, errW_some] <;> rfl) | (simp [*, errW_none, errW_some] <;> rfl), by repeat (first | (with_reducible first | exact HB.out | apply below_alloc | apply pw_below_drewN | apply below_drew1) | exact HB.out)⟩
              · rw [if_neg c43] at H
                have c43b0 : decide (0 < t213) = false := decide_eq_false c43
                clear c43
                by_cases c53 : t217 > 0
                · rw [if_pos c53] at H
                  have c53b0 : decide (0 < t217) = true := decide_eq_true c53
                  clear c53
                  by_cases c54 : t213 ≥ 0
                  · rw [if_pos c54] at H
                    have c54b0 : decide (0 ≤ t213) = true := decide_eq_true c54
                    clear c54
                    by_cases c55 : t217 ≥ 0
                    · rw [if_pos c55] at H
                      have c55b0 : decide (0 ≤ t217) = true := decide_eq_true c55
                      clear c55
                      replace H := Option.bind_eq_some_iff.mp H
                      obtain ⟨t230, A560, H⟩ := H
                      replace H : (some t230) = some r := H
                      have A56 := Aside0.mk A560
                      clear A560
                      obtain rfl := Option.some.inj H
                      go_wp2_with (first | (go_at_call 13; (with_reducible refine (graftwoodlaw03_awake.calls kj10  t230 _ A56.out).mono ?_); rintro e w57 ⟨rfl, hb⟩; have n0_ := Aside0.mk (below_step (by repeat (first | (with_reducible first | exact HB.out | apply below_alloc | apply pw_below_drewN | apply below_drew1) | exact HB.out)) hb); clear HB; have HB := n0_; clear n0_; (try clear hb); (try clear hb2); (try clear hk); (try clear hi)))
                      go_ret
                      exact ⟨by first | rfl | (simp [errW_none, errW_some] <;> rfl) | (simp [*, errW_none, errW_some] <;> rfl), by repeat (first | (with_reducible first | exact HB.out | apply below_alloc | apply pw_below_drewN | apply below_drew1) | exact HB.out)⟩
                    · rw [if_neg c55] at H
                      have c55b0 : decide (0 ≤ t217) = false := decide_eq_false c55
                      clear c55
                      by_cases c58 : t219 < 0
                      · rw [if_pos c58] at H
                        have c58b0 : decide (t219 < 0) = true := decide_eq_true c58
                        clear c58
                        replace H := Option.bind_eq_some_iff.mp H
                        obtain ⟨t231, A590, H⟩ := H
                        replace H : (some t231) = some r := H
                        have A59 := Aside0.mk A590
                        clear A590
                        obtain rfl := Option.some.inj H
                        go_wp2_with (first | (go_at_call 13; (with_reducible refine (graftwoodlaw03_awake.calls kj10  t231 _ A59.out).mono ?_); rintro e w60 ⟨rfl, hb⟩; have n0_ := Aside0.mk (below_step (by repeat (first | (with_reducible first | exact HB.out | apply below_alloc | apply pw_below_drewN | apply below_drew1) | exact HB.out)) hb); clear HB; have HB := n0_; clear n0_; (try clear hb); (try clear hb2); (try clear hk); (try clear hi)))
                        go_ret
                        exact ⟨by first | rfl | (simp [errW_none, errW_some] <;> rfl) | (simp [*, errW_none, errW_some] <;> rfl), by repeat (first | (with_reducible first | exact HB.out | apply below_alloc | apply pw_below_drewN | apply below_drew1) | exact HB.out)⟩
                      · rw [if_neg c58] at H
                        have c58b0 : decide (t219 < 0) = false := decide_eq_false c58
                        clear c58
                        obtain rfl := Option.some.inj H
                        go_wp2
                        go_ret
                        exact ⟨by first | rfl | (simp [errW_none, errW_some] <;> rfl) | (simp [*, errW_none, errW_some] <;> rfl), by repeat (first | (with_reducible first | exact HB.out | apply below_alloc | apply pw_below_drewN | apply below_drew1) | exact HB.out)⟩
                  · rw [if_neg c54] at H
                    have c54b0 : decide (0 ≤ t213) = false := decide_eq_false c54
                    clear c54
                    by_cases c61 : t217 ≥ 0
                    · rw [if_pos c61] at H
                      have c61b0 : decide (0 ≤ t217) = true := decide_eq_true c61
                      clear c61
                      replace H := Option.bind_eq_some_iff.mp H
                      obtain ⟨t232, A620, H⟩ := H
                      replace H : (some t232) = some r := H
                      have A62 := Aside0.mk A620
                      clear A620
                      obtain rfl := Option.some.inj H
                      go_wp2_with (first | (go_at_call 13; (with_reducible refine (graftwoodlaw03_awake.calls kj10  t232 _ A62.out).mono ?_); rintro e w63 ⟨rfl, hb⟩; have n0_ := Aside0.mk (below_step (by repeat (first | (with_reducible first | exact HB.out | apply below_alloc | apply pw_below_drewN | apply below_drew1) | exact HB.out)) hb); clear HB; have HB := n0_; clear n0_; (try clear hb); (try clear hb2); (try clear hk); (try clear hi)))
                      go_ret
                      exact ⟨by first | rfl | (simp [errW_none, errW_some] <;> rfl) | (simp [*, errW_none, errW_some] <;> rfl), by repeat (first | (with_reducible first | exact HB.out | apply below_alloc | apply pw_below_drewN | apply below_drew1) | exact HB.out)⟩
                    · rw [if_neg c61] at H
                      have c61b0 : decide (0 ≤ t217) = false := decide_eq_false c61
                      clear c61
                      by_cases c64 : t219 < 0
                      · rw [if_pos c64] at H
                        have c64b0 : decide (t219 < 0) = true := decide_eq_true c64
                        clear c64
                        replace H := Option.bind_eq_some_iff.mp H
                        obtain ⟨t233, A650, H⟩ := H
                        replace H : (some t233) = some r := H
                        have A65 := Aside0.mk A650
                        clear A650
                        obtain rfl := Option.some.inj H
                        go_wp2_with (first | (go_at_call 13; (with_reducible refine (graftwoodlaw03_awake.calls kj10  t233 _ A65.out).mono ?_); rintro e w66 ⟨rfl, hb⟩; have n0_ := Aside0.mk (below_step (by repeat (first | (with_reducible first | exact HB.out | apply below_alloc | apply pw_below_drewN | apply below_drew1) | exact HB.out)) hb); clear HB; have HB := n0_; clear n0_; (try clear hb); (try clear hb2); (try clear hk); (try clear hi)))
                        go_ret
                        exact ⟨by first | rfl | (simp [errW_none, errW_some] <;> rfl) | (simp [*, errW_none, errW_some] <;> rfl), by repeat (first | (with_reducible first | exact HB.out | apply below_alloc | apply pw_below_drewN | apply below_drew1) | exact HB.out)⟩
                      · rw [if_neg c64] at H
                        have c64b0 : decide (t219 < 0) = false := decide_eq_false c64
                        clear c64
                        obtain rfl := Option.some.inj H
                        go_wp2
                        go_ret
                        exact ⟨by first | rfl | (simp [errW_none, errW_some] <;> rfl) | (simp [*, errW_none, errW_some] <;> rfl), by repeat (first | (with_reducible first | exact HB.out | apply below_alloc | apply pw_below_drewN | apply below_drew1) | exact HB.out)⟩
                · rw [if_neg c53] at H
                  have c53b0 : decide (0 < t217) = false := decide_eq_false c53
                  clear c53
                  by_cases c67 : t219 ≤ 0
                  · rw [if_pos c67] at H
                    have c67b0 : decide (t219 ≤ 0) = true := decide_eq_true c67
                    clear c67
                    by_cases c68 : t213 ≥ 0
                    · rw [if_pos c68] at H
                      have c68b0 : decide (0 ≤ t213) = true := decide_eq_true c68
                      clear c68
                      by_cases c69 : t217 ≥ 0
                      · rw [if_pos c69] at H
                        have c69b0 : decide (0 ≤ t217) = true := decide_eq_true c69
                        clear c69
                        replace H := Option.bind_eq_some_iff.mp H
                        obtain ⟨t234, A700, H⟩ := H
                        replace H : (some t234) = some r := H
                        have A70 := Aside0.mk A700
                        clear A700
                        obtain rfl := Option.some.inj H
                        go_wp2_with (first | (go_at_call 13; (with_reducible refine (graftwoodlaw03_awake.calls kj10  t234 _ A70.out).mono ?_); rintro e w71 ⟨rfl, hb⟩; have n0_ := Aside0.mk (below_step (by repeat (first | (with_reducible first | exact HB.out | apply below_alloc | apply pw_below_drewN | apply below_drew1) | exact HB.out)) hb); clear HB; have HB := n0_; clear n0_; (try clear hb); (try clear hb2); (try clear hk); (try clear hi)))
                        go_ret
                        exact ⟨by first | rfl | (simp [errW_none, errW_some] <;> rfl) | (simp [*, errW_none, errW_some] <;> rfl), by repeat (first | (with_reducible first | exact HB.out | apply below_alloc | apply pw_below_drewN | apply below_drew1) | exact HB.out)⟩
                      · rw [if_neg c69] at H
                        have c69b0 : decide (0 ≤ t217) = false := decide_eq_false c69
                        clear c69
                        by_cases c72 : t219 < 0
                        · rw [if_pos c72] at H
                          have c72b0 : decide (t219 < 0) = true := decide_eq_true c72
                          clear c72
                          replace H := Option.bind_eq_some_iff.mp H
                          obtain ⟨t235, A730, H⟩ := H
                          replace H : (some t235) = some r := H
                          have A73 := Aside0.mk A730
                          clear A730
                          obtain rfl := Option.some.inj H
                          go_wp2_with (first | (go_at_call 13; (with_reducible refine (graftwoodlaw03_awake.calls kj10  t235 _ A73.out).mono ?_); rintro e w74 ⟨rfl, hb⟩; have n0_ := Aside0.mk (below_step (by repeat (first | (with_reducible first | exact HB.out | apply below_alloc | apply pw_below_drewN | apply below_drew1) | exact HB.out)) hb); clear HB; have HB := n0_; clear n0_; (try clear hb); (try clear hb2); (try clear hk); (try clear hi)))
                          go_ret
                          exact ⟨by first | rfl | (simp [errW_none, errW_some] <;> rfl) | (simp [*, errW_none, errW_some] <;> rfl), by repeat (first | (with_reducible first | exact HB.out | apply below_alloc | apply pw_below_drewN | apply below_drew1) | exact HB.out)⟩
                        · rw [if_neg c72] at H
                          have c72b0 : decide (t219 < 0) = false := decide_eq_false c72
                          clear c72
                          obtain rfl := Option.some.inj H
                          go_wp2
                          go_ret
                          exact ⟨by first | rfl | (simp [errW_none, errW_some] <;> rfl) | (simp [*, errW_none, errW_some] <;> rfl), by repeat (first | (with_reducible first | exact HB.out | apply below_alloc | apply pw_below_drewN | apply below_drew1) | exact HB.out)⟩
                    · rw [if_neg c68] at H
                      have c68b0 : decide (0 ≤ t213) = false := decide_eq_false c68
                      clear c68
                      by_cases c75 : t219 < 0
                      · rw [if_pos c75] at H
                        have c75b0 : decide (t219 < 0) = true := decide_eq_true c75
                        clear c75
                        by_cases c76 : t217 ≥ 0
                        · rw [if_pos c76] at H
                          have c76b0 : decide (0 ≤ t217) = true := decide_eq_true c76
                          clear c76
                          replace H := Option.bind_eq_some_iff.mp H
                          obtain ⟨t236, A770, H⟩ := H
                          replace H : (some t236) = some r := H
                          have A77 := Aside0.mk A770
                          clear A770
                          obtain rfl := Option.some.inj H
                          go_wp2_with (first | (go_at_call 13; (with_reducible refine (graftwoodlaw03_awake.calls kj10  t236 _ A77.out).mono ?_); rintro e w78 ⟨rfl, hb⟩; have n0_ := Aside0.mk (below_step (by repeat (first | (with_reducible first | exact HB.out | apply below_alloc | apply pw_below_drewN | apply below_drew1) | exact HB.out)) hb); clear HB; have HB := n0_; clear n0_; (try clear hb); (try clear hb2); (try clear hk); (try clear hi)))
                          go_ret
                          exact ⟨by first | rfl | (simp [errW_none, errW_some] <;> rfl) | (simp [*, errW_none, errW_some] <;> rfl), by repeat (first | (with_reducible first | exact HB.out | apply below_alloc | apply pw_below_drewN | apply below_drew1) | exact HB.out)⟩
                        · rw [if_neg c76] at H
                          have c76b0 : decide (0 ≤ t217) = false := decide_eq_false c76
                          clear c76
                          replace H := Option.bind_eq_some_iff.mp H
                          obtain ⟨t237, A790, H⟩ := H
                          replace H : (some t237) = some r := H
                          have A79 := Aside0.mk A790
                          clear A790
                          obtain rfl := Option.some.inj H
                          go_wp2_with (first | (go_at_call 13; (with_reducible refine (graftwoodlaw03_awake.calls kj10  t237 _ A79.out).mono ?_); rintro e w80 ⟨rfl, hb⟩; have n0_ := Aside0.mk (below_step (by repeat (first | (with_reducible first | exact HB.out | apply below_alloc | apply pw_below_drewN | apply below_drew1) | exact HB.out)) hb); clear HB; have HB := n0_; clear n0_; (try clear hb); (try clear hb2); (try clear hk); (try clear hi)))
                          go_ret
                          exact ⟨by first | rfl | (simp [errW_none, errW_some] <;> rfl) | (simp [*, errW_none, errW_some] <;> rfl), by repeat (first | (with_reducible first | exact HB.out | apply below_alloc | apply pw_below_drewN | apply below_drew1) | exact HB.out)⟩
                      · rw [if_neg c75] at H
                        have c75b0 : decide (t219 < 0) = false := decide_eq_false c75
                        clear c75
                        obtain rfl := Option.some.inj H
                        go_wp2
                        go_ret
                        exact ⟨by first | rfl | (simp [errW_none, errW_some] <;> rfl) | (simp [*, errW_none, errW_some] <;> rfl), by repeat (first | (with_reducible first | exact HB.out | apply below_alloc | apply pw_below_drewN | apply below_drew1) | exact HB.out)⟩
                  · rw [if_neg c67] at H
                    have c67b0 : decide (t219 ≤ 0) = false := decide_eq_false c67
                    clear c67
                    obtain rfl := Option.some.inj H
                    go_wp2
                    go_ret
                    exact ⟨by first | rfl | (simp [errW_none, errW_some] <;> rfl) | (simp [*, errW_none, errW_some] <;> rfl), by repeat (first | (with_reducible first | exact HB.out | apply below_alloc | apply pw_below_drewN | apply below_drew1) | exact HB.out)⟩
            · rw [if_neg c42] at H
              have c42b0 : ((t213 == 0) == (t210.toList == t211.toList)) = false := by simpa using c42
              (try (have c42b1 : decide ((t213 == 0) = (t210.toList == t211.toList)) = false := by simpa using c42))
              (try (have c42b2 : ((t213 == 0) == (t210.toList == t211.toList)) = false := by simpa using c42))
              (try (have c42b3 : ¬ ((t213 == 0) = (t210.toList == t211.toList)) := by simpa using c42))
              clear c42
              obtain rfl := Option.some.inj H
              go_wp2
              go_ret
              exact ⟨by first | rfl | (simp [errW_none, errW_some] <;> rfl) | (simp [*, errW_none, errW_some] <;> rfl), by repeat (first | (with_reducible first | exact HB.out | apply below_alloc | apply pw_below_drewN | apply below_drew1) | exact HB.out)⟩
          · rw [if_neg c41] at H
            have c41b0 : (t213 == (wrap64 (-t215))) = false := beq_eq_false_iff_ne.mpr c41
            have c41b1 : (t213 != (wrap64 (-t215))) = true := bne_iff_ne.mpr c41
            obtain rfl := Option.some.inj H
            go_wp2
            go_ret
            exact ⟨by first | rfl | (simp [errW_none, errW_some] <;> rfl) | (simp [*, errW_none, errW_some] <;> rfl), by repeat (first | (with_reducible first | exact HB.out | apply below_alloc | apply pw_below_drewN | apply below_drew1) | exact HB.out)⟩
        · rw [if_neg c40] at H
          have c40b0 : (t216 == 0) = false := beq_eq_false_iff_ne.mpr c40
          have c40b1 : (t216 != 0) = true := bne_iff_ne.mpr c40
          obtain rfl := Option.some.inj H
          go_wp2
          go_ret
          exact ⟨by first | rfl | (simp [errW_none, errW_some] <;> rfl) | (simp [*, errW_none, errW_some] <;> rfl), by repeat (first | (with_reducible first | exact HB.out | apply below_alloc | apply pw_below_drewN | apply below_drew1) | exact HB.out)⟩

/-- THE ONE PURE STATEMENT of graftwoodlaw03_VersionOrder: yours. -/
def graftwoodlaw03_VersionOrder.Pure : Prop := ∀ (a0 : ByteArray) (a1 : ByteArray) (a2 : ByteArray), a0.size ≤ 140737488351232 → a1.size ≤ 140737488351232 → a2.size ≤ 140737488351232 → ∃ k, graftwoodlaw03_VersionOrder.f k a0 a1 a2 = some true
theorem graftwoodlaw03_VersionOrder.walk (P : graftwoodlaw03_VersionOrder.Pure) (a0 : ByteArray) (a1 : ByteArray) (a2 : ByteArray) (w : World) (w0 : a0.size ≤ 140737488351232) (w1 : a1.size ≤ 140737488351232) (w2 : a2.size ≤ 140737488351232) :
    Calls Tryd.prog 3 #[.string a0, .string a1, .string a2] w fun e w' => e = .returned (.bool true) ∧ Below w.heap.size w w' := by
  obtain ⟨k, h⟩ := P a0 a1 a2 w0 w1 w2
  refine (graftwoodlaw03_VersionOrder.calls k a0 a1 a2 true w h).mono ?_
  rintro e w' ⟨rfl, hd⟩
  exact ⟨rfl, hd⟩

end Go.Proofs.YtjadpeahoaogcaaDoor.P
