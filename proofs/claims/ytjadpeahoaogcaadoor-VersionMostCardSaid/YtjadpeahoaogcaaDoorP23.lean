-- Written by this project's own program (wip/tools/hp.py), driving the kit's print; hand texts among it. Not trusted: Lean checks it.
import Derived.Test.YtjadpeahoaogcaaDoorP0
import Derived.Test.YtjadpeahoaogcaaDoorP2
import Derived.Test.YtjadpeahoaogcaaDoorP14
import Derived.Test.YtjadpeahoaogcaaDoorP15
import Derived.Test.YtjadpeahoaogcaaDoorP21
namespace Go.Proofs.YtjadpeahoaogcaaDoor.P
open Go.RowKit Go.Proofs.YtjadpeahoaogcaaDoorW.PrintWords Go.Proofs.YtjadpeahoaogcaaDoorW.PrintLast Go.Proofs.YtjadpeahoaogcaaDoorW.PrintMore
attribute [local go_sem] max2_int min2_int max_two min_two max_three min_three max_four min_four   -- for this text's walks alone
set_option linter.unusedVariables false
set_option linter.unusedSimpArgs false

/-! ### graftwoodlaw03_VersionMost: function 5 -/
mutual
def graftwoodlaw03_VersionMost.j1 : Nat → List ByteArray → List ByteArray → Option (Bool)
  | 0, _, _ => none
  | k + 1, x3, x4 => graftwoodlaw03_VersionMost.l1 k x3 x4 (wrap64 ((x3.length : Int) - 1))
def graftwoodlaw03_VersionMost.l1 : Nat → List ByteArray → List ByteArray → Int → Option (Bool)
  | 0, _, _, _ => none
  | k + 1, x3, x4, x6 => if x6 ≥ 0 then (if 0 ≤ x6 then (if x6 < (x3.length : Int) then (if x4.length < 8796093022208 then (graftwoodlaw03_VersionMost.l1 k x3 (x4 ++ [rdOf ByteArray.empty x3 x6]) (wrap64 (x6 - 1))) else (none)) else (none)) else (none)) else ((version_Max.f k x3).bind fun bt341 => ((version_Max.f k x4).bind fun bt343 => (if bt341.1.toList = bt343.1.toList then (graftwoodlaw03_VersionMost.j3 k x3 bt341.1 bt341.2 (bt341.2 != bt343.2)) else (graftwoodlaw03_VersionMost.j3 k x3 bt341.1 bt341.2 true))))
def graftwoodlaw03_VersionMost.j3 : Nat → List ByteArray → ByteArray → Int → Bool → Option (Bool)
  | 0, _, _, _, _ => none
  | k + 1, x3, x7, x8, x64 => if x64 = true then (some false) else (if x8 = 0 then (graftwoodlaw03_VersionMost.l2 k x3 x7 false 0) else ((graftwoodlaw03_awake.f k).bind fun t345 => (some t345)))
def graftwoodlaw03_VersionMost.l2 : Nat → List ByteArray → ByteArray → Bool → Int → Option (Bool)
  | 0, _, _, _, _ => none
  | k + 1, x3, x7, x11, x12 => if x12 < (x3.length : Int) then (if 0 ≤ x12 then ((version_Cmp.f k (rdOf ByteArray.empty x3 x12) x7).bind fun bt347 => (if bt347.2 = 0 then (if bt347.1 > 0 then (some false) else (if x11 = true then (graftwoodlaw03_VersionMost.l2 k x3 x7 true (wrap64 (x12 + 1))) else (graftwoodlaw03_VersionMost.l2 k x3 x7 ((rdOf ByteArray.empty x3 x12).toList == x7.toList) (wrap64 (x12 + 1))))) else (some false))) else (none)) else (if x11 = true then ((graftwoodlaw03_awake.f k).bind fun t350 => (some t350)) else (some false))
def graftwoodlaw03_VersionMost.l0 : Nat → List ByteArray → List ByteArray → Int → Option (Bool)
  | 0, _, _, _ => none
  | k + 1, x0, x3, x5 => if x5 < (x0.length : Int) then (if x5 < 12 then (if 0 ≤ x5 then ((graftwoodlaw01_Few.f (rdOf ByteArray.empty x0 x5)).bind fun t333 => (if x3.length < 8796093022208 then (graftwoodlaw03_VersionMost.l0 k x0 (x3 ++ [t333]) (wrap64 (x5 + 1))) else (none))) else (none)) else (graftwoodlaw03_VersionMost.j1 k x3 ([] : List ByteArray))) else (graftwoodlaw03_VersionMost.j1 k x3 ([] : List ByteArray))
end
def graftwoodlaw03_VersionMost.f (k : Nat) (l0 : List ByteArray) : Option (Bool) := graftwoodlaw03_VersionMost.l0 k l0 ([] : List ByteArray) 0
theorem graftwoodlaw03_VersionMost.mono_l : ∀ k, (∀ y0 y1, LeO (graftwoodlaw03_VersionMost.j1 k y0 y1) (graftwoodlaw03_VersionMost.j1 (k + 1) y0 y1)) ∧ (∀ y0 y1 y2, LeO (graftwoodlaw03_VersionMost.l1 k y0 y1 y2) (graftwoodlaw03_VersionMost.l1 (k + 1) y0 y1 y2)) ∧ (∀ y0 y1 y2 y3, LeO (graftwoodlaw03_VersionMost.j3 k y0 y1 y2 y3) (graftwoodlaw03_VersionMost.j3 (k + 1) y0 y1 y2 y3)) ∧ (∀ y0 y1 y2 y3, LeO (graftwoodlaw03_VersionMost.l2 k y0 y1 y2 y3) (graftwoodlaw03_VersionMost.l2 (k + 1) y0 y1 y2 y3)) ∧ (∀ y0 y1 y2, LeO (graftwoodlaw03_VersionMost.l0 k y0 y1 y2) (graftwoodlaw03_VersionMost.l0 (k + 1) y0 y1 y2))
  | 0 => ⟨fun _ _ r h => by simp [graftwoodlaw03_VersionMost.j1] at h, fun _ _ _ r h => by simp [graftwoodlaw03_VersionMost.l1] at h, fun _ _ _ _ r h => by simp [graftwoodlaw03_VersionMost.j3] at h, fun _ _ _ _ r h => by simp [graftwoodlaw03_VersionMost.l2] at h, fun _ _ _ r h => by simp [graftwoodlaw03_VersionMost.l0] at h⟩
  | k + 1 => by
    obtain ⟨ih0, ih1, ih2, ih3, ih4⟩ := graftwoodlaw03_VersionMost.mono_l k
    refine ⟨?_, ?_, ?_, ?_, ?_⟩
    · intro y0 y1
      unfold graftwoodlaw03_VersionMost.j1
      repeat' first
      | (with_reducible exact ih0 _ _)
      | (with_reducible exact ih1 _ _ _)
      | (with_reducible exact ih2 _ _ _ _)
      | (with_reducible exact ih3 _ _ _ _)
      | (with_reducible exact ih4 _ _ _)
      | (with_reducible exact graftwoodlaw03_awake.mono _)
      | (with_reducible exact version_Cmp.mono _ _ _)
      | (with_reducible exact version_Max.mono _ _)
      | (with_reducible exact LeO.refl _)
      | (with_reducible exact LeO.none _)
      | (with_reducible refine LeO.ite ?_ ?_)
      | (with_reducible refine LeO.bind ?_ (fun _ => ?_))
      | exact ih0 _ _
      | exact ih1 _ _ _
      | exact ih2 _ _ _ _
      | exact ih3 _ _ _ _
      | exact ih4 _ _ _
      | exact graftwoodlaw03_awake.mono _
      | exact version_Cmp.mono _ _ _
      | exact version_Max.mono _ _
      | exact LeO.none _
      | refine LeO.ite ?_ ?_
      | refine LeO.bind ?_ (fun _ => ?_)
    · intro y0 y1 y2
      unfold graftwoodlaw03_VersionMost.l1
      repeat' first
      | (with_reducible exact ih0 _ _)
      | (with_reducible exact ih1 _ _ _)
      | (with_reducible exact ih2 _ _ _ _)
      | (with_reducible exact ih3 _ _ _ _)
      | (with_reducible exact ih4 _ _ _)
      | (with_reducible exact graftwoodlaw03_awake.mono _)
      | (with_reducible exact version_Cmp.mono _ _ _)
      | (with_reducible exact version_Max.mono _ _)
      | (with_reducible exact LeO.refl _)
      | (with_reducible exact LeO.none _)
      | (with_reducible refine LeO.ite ?_ ?_)
      | (with_reducible refine LeO.bind ?_ (fun _ => ?_))
      | exact ih0 _ _
      | exact ih1 _ _ _
      | exact ih2 _ _ _ _
      | exact ih3 _ _ _ _
      | exact ih4 _ _ _
      | exact graftwoodlaw03_awake.mono _
      | exact version_Cmp.mono _ _ _
      | exact version_Max.mono _ _
      | exact LeO.none _
      | refine LeO.ite ?_ ?_
      | refine LeO.bind ?_ (fun _ => ?_)
    · intro y0 y1 y2 y3
      unfold graftwoodlaw03_VersionMost.j3
      repeat' first
      | (with_reducible exact ih0 _ _)
      | (with_reducible exact ih1 _ _ _)
      | (with_reducible exact ih2 _ _ _ _)
      | (with_reducible exact ih3 _ _ _ _)
      | (with_reducible exact ih4 _ _ _)
      | (with_reducible exact graftwoodlaw03_awake.mono _)
      | (with_reducible exact version_Cmp.mono _ _ _)
      | (with_reducible exact version_Max.mono _ _)
      | (with_reducible exact LeO.refl _)
      | (with_reducible exact LeO.none _)
      | (with_reducible refine LeO.ite ?_ ?_)
      | (with_reducible refine LeO.bind ?_ (fun _ => ?_))
      | exact ih0 _ _
      | exact ih1 _ _ _
      | exact ih2 _ _ _ _
      | exact ih3 _ _ _ _
      | exact ih4 _ _ _
      | exact graftwoodlaw03_awake.mono _
      | exact version_Cmp.mono _ _ _
      | exact version_Max.mono _ _
      | exact LeO.none _
      | refine LeO.ite ?_ ?_
      | refine LeO.bind ?_ (fun _ => ?_)
    · intro y0 y1 y2 y3
      unfold graftwoodlaw03_VersionMost.l2
      repeat' first
      | (with_reducible exact ih0 _ _)
      | (with_reducible exact ih1 _ _ _)
      | (with_reducible exact ih2 _ _ _ _)
      | (with_reducible exact ih3 _ _ _ _)
      | (with_reducible exact ih4 _ _ _)
      | (with_reducible exact graftwoodlaw03_awake.mono _)
      | (with_reducible exact version_Cmp.mono _ _ _)
      | (with_reducible exact version_Max.mono _ _)
      | (with_reducible exact LeO.refl _)
      | (with_reducible exact LeO.none _)
      | (with_reducible refine LeO.ite ?_ ?_)
      | (with_reducible refine LeO.bind ?_ (fun _ => ?_))
      | exact ih0 _ _
      | exact ih1 _ _ _
      | exact ih2 _ _ _ _
      | exact ih3 _ _ _ _
      | exact ih4 _ _ _
      | exact graftwoodlaw03_awake.mono _
      | exact version_Cmp.mono _ _ _
      | exact version_Max.mono _ _
      | exact LeO.none _
      | refine LeO.ite ?_ ?_
      | refine LeO.bind ?_ (fun _ => ?_)
    · intro y0 y1 y2
      unfold graftwoodlaw03_VersionMost.l0
      repeat' first
      | (with_reducible exact ih0 _ _)
      | (with_reducible exact ih1 _ _ _)
      | (with_reducible exact ih2 _ _ _ _)
      | (with_reducible exact ih3 _ _ _ _)
      | (with_reducible exact ih4 _ _ _)
      | (with_reducible exact graftwoodlaw03_awake.mono _)
      | (with_reducible exact version_Cmp.mono _ _ _)
      | (with_reducible exact version_Max.mono _ _)
      | (with_reducible exact LeO.refl _)
      | (with_reducible exact LeO.none _)
      | (with_reducible refine LeO.ite ?_ ?_)
      | (with_reducible refine LeO.bind ?_ (fun _ => ?_))
      | exact ih0 _ _
      | exact ih1 _ _ _
      | exact ih2 _ _ _ _
      | exact ih3 _ _ _ _
      | exact ih4 _ _ _
      | exact graftwoodlaw03_awake.mono _
      | exact version_Cmp.mono _ _ _
      | exact version_Max.mono _ _
      | exact LeO.none _
      | refine LeO.ite ?_ ?_
      | refine LeO.bind ?_ (fun _ => ?_)
theorem graftwoodlaw03_VersionMost.mono : ∀ a0 k, LeO (graftwoodlaw03_VersionMost.f k a0) (graftwoodlaw03_VersionMost.f (k + 1) a0) := by
  intro a0 k
  obtain ⟨ih0, ih1, ih2, ih3, ih4⟩ := graftwoodlaw03_VersionMost.mono_l k
  unfold graftwoodlaw03_VersionMost.f
  repeat' first
      | (with_reducible exact ih0 _ _)
      | (with_reducible exact ih1 _ _ _)
      | (with_reducible exact ih2 _ _ _ _)
      | (with_reducible exact ih3 _ _ _ _)
      | (with_reducible exact ih4 _ _ _)
      | (with_reducible exact graftwoodlaw03_awake.mono _)
      | (with_reducible exact version_Cmp.mono _ _ _)
      | (with_reducible exact version_Max.mono _ _)
      | (with_reducible exact LeO.refl _)
      | (with_reducible exact LeO.none _)
      | (with_reducible refine LeO.ite ?_ ?_)
      | (with_reducible refine LeO.bind ?_ (fun _ => ?_))
      | exact ih0 _ _
      | exact ih1 _ _ _
      | exact ih2 _ _ _ _
      | exact ih3 _ _ _ _
      | exact ih4 _ _ _
      | exact graftwoodlaw03_awake.mono _
      | exact version_Cmp.mono _ _ _
      | exact version_Max.mono _ _
      | exact LeO.none _
      | refine LeO.ite ?_ ?_
      | refine LeO.bind ?_ (fun _ => ?_)
set_option maxHeartbeats 8000000 in
set_option maxRecDepth 100000 in
theorem graftwoodlaw03_VersionMost.calls (k : Nat) (A0 : Option Addr) (c0 : Nat) (l0 : List ByteArray) (r : Bool) (w : World) (hr0 : Kd.C Kd.string w A0 l0.length l0) (hc0 : l0.length ≤ c0) (h : graftwoodlaw03_VersionMost.f k l0 = some r) :
    Calls Tryd.prog 5 #[.slice A0 l0.length c0] w fun e w' => e = .returned (.bool r) ∧ Below w.heap.size w w' := by
  have HR0 := Aside0.mk hr0
  have HC0 := Aside0.mk hc0
  clear hr0 hc0
  have HB := Aside0.mk (Below.refl w.heap.size w)
  have H : (graftwoodlaw03_VersionMost.l0 k l0 ([] : List ByteArray) 0) = some r := h
  clear h
  have HC2 := Aside0.mk H
  clear H
  go_enter Tryd.func5, Tryd.ntmps5
  go_upto_block 0 with (fail)
  go_cut [3] (fun v3 wc => ∃ (kq : Nat) (x3_1 : List ByteArray), Aside0 (graftwoodlaw03_VersionMost.j1 kq x3_1 ([] : List ByteArray) = some r) ∧ Aside0 (kq ≤ k) ∧ Aside0 (Kd.R Kd.string 9 wc w.heap.size (fun k_ => some k_ ≠ ((.slice none 0 0) : Value).ownBlock) v3 x3_1) ∧ Aside0 (Kd.R Kd.string 9 wc w.heap.size (fun k_ => some k_ ≠ (v3 : Value).ownBlock) (.slice none 0 0) ([] : List ByteArray)) ∧ Aside0 (Below w.heap.size w wc))
  case first =>
    have H := HC2.out
    clear HC2
    have H' := Aside0.mk H
    clear H
    go_wp2
    go_loopg [3, 5] k (fun kq v3 v5 w' => ∃ (x3_1 : List ByteArray) (x5_1 : Int), v5 = .int .i64 x5_1 ∧ Aside0 (graftwoodlaw03_VersionMost.l0 kq l0 x3_1 x5_1 = some r) ∧ Aside0 (kq ≤ k) ∧ Aside0 (Kd.R Kd.string 9 w' w.heap.size (fun _ => True) v3 x3_1) ∧ Aside0 (Below w.heap.size w w'))
    case atStart => exact ⟨(([] : List ByteArray)), (0), (by first | rfl | (simp; done) | (simp [*]; done)), H', ⟨Nat.le_refl _⟩, ⟨by first | exact Kd.R_nil _ _ _ _ _ | exact Kd.N_nil _ _ _ _ _ | exact Kd.V_nil _ _ _ _ _ | exact Kd.Q_nil _ _ _ _ _ | exact Kd.S_nil _ _ _ _ _⟩, ⟨by repeat (first | (with_reducible first | exact HB.out | apply below_alloc | apply pw_below_drewN | apply below_drew1) | exact HB.out)⟩⟩
    case round =>
      clear H'
      try clear p2
      obtain ⟨x3_1, x5_1, rfl, HA, HK1, HO_3, HB⟩ := hrel
      cases gk with
      | zero => exact absurd HA.out (by simp [graftwoodlaw03_VersionMost.l0])
      | succ k1 =>
        have H := HA.out
        clear HA
        simp only [graftwoodlaw03_VersionMost.l0] at H
        by_cases c3 : x5_1 < (l0.length : Int)
        · rw [if_pos c3] at H
          have c3b0 : decide (x5_1 < (l0.length : Int)) = true := decide_eq_true c3
          clear c3
          (first | rw [c3b0] | (simp only [i64_w, i32_w]; rw [c3b0]) | skip)
          by_cases c4 : x5_1 < 12
          · rw [if_pos c4] at H
            have c4b0 : decide (x5_1 < 12) = true := decide_eq_true c4
            clear c4
            by_cases c5 : 0 ≤ x5_1
            · rw [if_pos c5] at H
              have c5b0 : decide (0 ≤ x5_1) = true := decide_eq_true c5
              clear c5
              replace H := Option.bind_eq_some_iff.mp H
              obtain ⟨t333, A60, H⟩ := H
              replace H : (if x3_1.length < 8796093022208 then (graftwoodlaw03_VersionMost.l0 k1 l0 (x3_1 ++ [t333]) (wrap64 (x5_1 + 1))) else (none)) = some r := H
              have A6 := Aside0.mk A60
              clear A60
              by_cases c7 : x3_1.length < 8796093022208
              · rw [if_pos c7] at H
                have LMc7 := Aside0.mk c7
                clear c7
                obtain ⟨y334, hy334⟩ : ∃ y_ : List ByteArray, y_ = (x3_1 ++ [t333]) := ⟨_, rfl⟩
                replace H : (graftwoodlaw03_VersionMost.l0 k1 l0 y334 (wrap64 (x5_1 + 1))) = some r := by first | (rw [hy334]; with_reducible exact H) | (have H2_ := (Option.bind_some _ _).symm.trans H; rw [hy334]; with_reducible exact H2_) | (have H2_ := (Option.bind_some _ _).symm.trans H; with_reducible exact H2_) | with_reducible exact H | (rw [hy334]; exact H) | exact H
                have Ny334 := Aside0.mk hy334
                clear hy334
                have H' := Aside0.mk H
                clear H
                have p332 : 0 ≤ (x5_1 : Int) := of_decide_eq_true (by first | (with_reducible assumption) | assumption)
                have q332 : x5_1 < (l0.length : Int) := of_decide_eq_true (by first | (with_reducible assumption) | assumption)
                obtain ⟨ad332, e332, hx332_0⟩ := Kd.at_string HR0.out x5_1 p332 q332
                cases e332
                replace hx332_0 := (HB.out.cell (World.block_lt_of_cell? w _ hx332_0)).trans hx332_0
                replace p332 := eq_true p332
                replace q332 := eq_true q332
                go_wp2_with (first | ((with_reducible refine gate_callee (f := 10) rfl ?_); refine goesL_ (some 30) rfl rfl Tryd.func10 (by kernel_rfl) rfl #[.string (rdOf ByteArray.empty l0 x5_1)] rfl (by (try simp only [List.map_toArray, List.map_cons, List.map_nil]); first | done | rfl | (simp only [List.length_drop, List.length_take]; rfl)) ?_; (with_reducible refine (graftwoodlaw01_Few.calls (rdOf ByteArray.empty l0 x5_1) t333 _ A6.out).mono ?_); rintro e w' ⟨rfl, ⟨nd, rfl⟩⟩; refine ⟨_, rfl, ?_⟩) | ((with_reducible refine gate_builtin (b := .append) (xs := #[.tmp 25, .tmp 31]) rfl ?_); at_builtin; refine Kd.R_append Kd.string (w0 := w) w.heap.size rfl (.tmp 25) (.tmp 31) 29 9 (.string ⟨#[]⟩) 16 rfl Tryd.underlying29 info9 rfl (by decide) (by omega) u3 x3_1 t333 [.string t333] (fun _ => True) (fun _ => False) rfl rfl ?aP (fun _ hk => hk.elim) ?aF ?aO ?aB ?aS ?aL ?_; (case aP => exact rfl); (case aB => exact (by repeat (first | (with_reducible first | exact HB.out | apply below_alloc | apply pw_below_drewN | apply below_drew1) | exact HB.out))); (case aF => exact (fun _ _ => trivial)); (case aO => exact (by (with_reducible repeat (first | apply Kd.R_alloc | apply Kd.R_drewN | apply Kd.R_drew)); exact HO_3.out)); (case aS => exact (below_size (by repeat (first | (with_reducible first | exact HB.out | apply below_alloc | apply pw_below_drewN | apply below_drew1) | exact HB.out)))); (case aL => have := LMc7.out; omega); intro v335 w8 ho hb hg hat; rw [← Ny334.out] at ho; have n0_ := Aside0.mk (hb); have n1_ := Aside0.mk (ho); clear HB; clear HO_3; have HB := n0_; have HO336 := n1_; clear n0_ n1_; clear ho hb hg hat))
                go_roundg k1
                case measure => have := HK1.out; omega
                case rel => exact ⟨(y334), (wrap64 (x5_1 + 1)), (by first | rfl | (simp; done) | (simp [*]; done)), H', ⟨by have := HK1.out; omega⟩, ⟨by (with_reducible repeat (first | apply Kd.R_alloc | apply Kd.R_drewN | apply Kd.R_drew)); exact HO336.out⟩, ⟨by repeat (first | (with_reducible first | exact HB.out | apply below_alloc | apply pw_below_drewN | apply below_drew1) | exact HB.out)⟩⟩
              · rw [if_neg c7] at H
                exact absurd H (by simp)
            · rw [if_neg c5] at H
              exact absurd H (by simp)
          · rw [if_neg c4] at H
            have c4b0 : decide (x5_1 < 12) = false := decide_eq_false c4
            clear c4
            have H' := Aside0.mk H
            clear H
            go_wp2
            go_meet
            case rel => exact ⟨_, (x3_1), H', ⟨by have := HK1.out; first | omega | exact Nat.le_refl _⟩, ⟨by (with_reducible repeat (first | apply Kd.R_alloc | apply Kd.R_drewN | apply Kd.R_drew)); exact Kd.R_mono HO_3.out (fun _ hk => (by simp [Value.ownBlock]))⟩, ⟨by first | exact Kd.R_nil _ _ _ _ _ | exact Kd.N_nil _ _ _ _ _ | exact Kd.V_nil _ _ _ _ _ | exact Kd.Q_nil _ _ _ _ _ | exact Kd.S_nil _ _ _ _ _⟩, ⟨by repeat (first | (with_reducible first | exact HB.out | apply below_alloc | apply pw_below_drewN | apply below_drew1) | exact HB.out)⟩⟩
        · rw [if_neg c3] at H
          have c3b0 : decide (x5_1 < (l0.length : Int)) = false := decide_eq_false c3
          clear c3
          (first | rw [c3b0] | (simp only [i64_w, i32_w]; rw [c3b0]) | skip)
          have H' := Aside0.mk H
          clear H
          go_wp2
          go_meet
          case rel => exact ⟨_, (x3_1), H', ⟨by have := HK1.out; first | omega | exact Nat.le_refl _⟩, ⟨by (with_reducible repeat (first | apply Kd.R_alloc | apply Kd.R_drewN | apply Kd.R_drew)); exact Kd.R_mono HO_3.out (fun _ hk => (by simp [Value.ownBlock]))⟩, ⟨by first | exact Kd.R_nil _ _ _ _ _ | exact Kd.N_nil _ _ _ _ _ | exact Kd.V_nil _ _ _ _ _ | exact Kd.Q_nil _ _ _ _ _ | exact Kd.S_nil _ _ _ _ _⟩, ⟨by repeat (first | (with_reducible first | exact HB.out | apply below_alloc | apply pw_below_drewN | apply below_drew1) | exact HB.out)⟩⟩
  case rest =>
    clear HC2
    try clear c1
    try clear p2
    try clear c3
    try clear c3b0
    try clear p3
    try clear q3
    try clear hx3
    try clear c4
    try clear c4b0
    try clear c5
    try clear c5b0
    try clear p6
    try clear c7
    try clear hx332_0
    try clear p2
    try clear p332
    try clear q332
    obtain ⟨kq, x3_1, HA, HJ1, HO_3, HO_4, HB⟩ := hcut
    cases kq with
    | zero => exact absurd HA.out (by simp [graftwoodlaw03_VersionMost.j1])
    | succ kj1 =>
      have H := HA.out
      clear HA
      simp only [graftwoodlaw03_VersionMost.j1] at H
      have H' := Aside0.mk H
      clear H
      obtain ⟨Ao9, co9, eo9⟩ := Kd.R_slice HO_3.out
      subst eo9
      go_wp2
      go_loopg [4, 6] kj1 (fun kq v4 v6 w' => ∃ (x4_2 : List ByteArray) (x6_2 : Int), v6 = .int .i64 x6_2 ∧ Aside0 (graftwoodlaw03_VersionMost.l1 kq x3_1 x4_2 x6_2 = some r) ∧ Aside0 (kq ≤ kj1) ∧ Aside0 (Kd.R Kd.string 9 w' w.heap.size (fun k_ => some k_ ≠ (v4 : Value).ownBlock) (.slice Ao9 x3_1.length co9) x3_1) ∧ Aside0 (Kd.R Kd.string 9 w' w.heap.size (fun k_ => some k_ ≠ ((.slice Ao9 x3_1.length co9) : Value).ownBlock) v4 x4_2) ∧ Aside0 (Below w.heap.size w w'))
      case atStart => exact ⟨(([] : List ByteArray)), (wrap64 ((x3_1.length : Int) - 1)), (by first | rfl | (simp; done) | (simp [*]; done)), H', ⟨Nat.le_refl _⟩, ⟨by (with_reducible repeat (first | apply Kd.R_alloc | apply Kd.R_drewN | apply Kd.R_drew)); exact HO_3.out⟩, ⟨by (with_reducible repeat (first | apply Kd.R_alloc | apply Kd.R_drewN | apply Kd.R_drew)); exact HO_4.out⟩, ⟨by repeat (first | (with_reducible first | exact HB.out | apply below_alloc | apply pw_below_drewN | apply below_drew1) | exact HB.out)⟩⟩
      case round =>
        clear H'
        try clear c1
        try clear p2
        try clear c3
        try clear c3b0
        try clear p3
        try clear q3
        try clear hx3
        try clear c4
        try clear c4b0
        try clear c5
        try clear c5b0
        try clear p6
        try clear c7
        try clear hx332_0
        try clear p2
        try clear p3
        try clear p332
        try clear p6
        try clear q3
        try clear q332
        obtain ⟨x4_2, x6_2, rfl, HA, HK2, HO_3, HO_4, HB⟩ := hrel
        cases gk with
        | zero => exact absurd HA.out (by simp [graftwoodlaw03_VersionMost.l1])
        | succ k2 =>
          have H := HA.out
          clear HA
          simp only [graftwoodlaw03_VersionMost.l1] at H
          by_cases c10 : x6_2 ≥ 0
          · rw [if_pos c10] at H
            have c10b0 : decide (0 ≤ x6_2) = true := decide_eq_true c10
            clear c10
            by_cases c11 : 0 ≤ x6_2
            · rw [if_pos c11] at H
              have c11b0 : decide (0 ≤ x6_2) = true := decide_eq_true c11
              clear c11
              by_cases c12 : x6_2 < (x3_1.length : Int)
              · rw [if_pos c12] at H
                have c12b0 : decide (x6_2 < (x3_1.length : Int)) = true := decide_eq_true c12
                clear c12
                by_cases c13 : x4_2.length < 8796093022208
                · rw [if_pos c13] at H
                  have LMc13 := Aside0.mk c13
                  clear c13
                  obtain ⟨y338, hy338⟩ : ∃ y_ : List ByteArray, y_ = (x4_2 ++ [rdOf ByteArray.empty x3_1 x6_2]) := ⟨_, rfl⟩
                  replace H : (graftwoodlaw03_VersionMost.l1 k2 x3_1 y338 (wrap64 (x6_2 - 1))) = some r := by first | (rw [hy338]; with_reducible exact H) | (have H2_ := (Option.bind_some _ _).symm.trans H; rw [hy338]; with_reducible exact H2_) | (have H2_ := (Option.bind_some _ _).symm.trans H; with_reducible exact H2_) | with_reducible exact H | (rw [hy338]; exact H) | exact H
                  have Ny338 := Aside0.mk hy338
                  clear hy338
                  have H' := Aside0.mk H
                  clear H
                  have p337 : 0 ≤ (x6_2 : Int) := of_decide_eq_true (by first | (with_reducible assumption) | assumption)
                  have q337 : x6_2 < (x3_1.length : Int) := of_decide_eq_true (by first | (with_reducible assumption) | assumption)
                  obtain ⟨ad337, e337, hx337_0⟩ := Kd.at_string (Kd.R_reads' HO_3.out).2.2 x6_2 p337 q337
                  cases e337
                  replace p337 := eq_true p337
                  replace q337 := eq_true q337
                  go_wp2_with (first | ((with_reducible refine gate_builtin (b := .append) (xs := #[.tmp 40, .tmp 45]) rfl ?_); at_builtin; refine Kd.R_append Kd.string (w0 := w) w.heap.size rfl (.tmp 40) (.tmp 45) 29 9 (.string ⟨#[]⟩) 16 rfl Tryd.underlying29 info9 rfl (by decide) (by omega) u4 x4_2 (rdOf ByteArray.empty x3_1 x6_2) [.string (rdOf ByteArray.empty x3_1 x6_2)] (fun k_ => some k_ ≠ (.slice (some ad337) x3_1.length co9 : Value).ownBlock) (fun _ => False) rfl rfl ?aP (fun _ hk => hk.elim) ?aF ?aO ?aB ?aS ?aL ?_; (case aP => exact rfl); (case aB => exact (by repeat (first | (with_reducible first | exact HB.out | apply below_alloc | apply pw_below_drewN | apply below_drew1) | exact HB.out))); (case aF => exact (fun k_ hk => Kd.fresh' (Kd.R_lt (by (with_reducible repeat (first | apply Kd.R_alloc | apply Kd.R_drewN | apply Kd.R_drew)); exact HO_3.out)) k_ hk)); (case aO => exact (by (with_reducible repeat (first | apply Kd.R_alloc | apply Kd.R_drewN | apply Kd.R_drew)); exact HO_4.out)); (case aS => exact (below_size (by repeat (first | (with_reducible first | exact HB.out | apply below_alloc | apply pw_below_drewN | apply below_drew1) | exact HB.out)))); (case aL => have := LMc13.out; omega); intro v339 w14 ho hb hg hat; rw [← Ny338.out] at ho; have n0_ := Aside0.mk (Kd.R_after (ok := (fun _ => True)) (by (with_reducible repeat (first | apply Kd.R_alloc | apply Kd.R_drewN | apply Kd.R_drew)); exact Kd.R_mono HO_3.out (fun _ hk => ⟨trivial, hk⟩)) hg hat); have n1_ := Aside0.mk (hb); have n2_ := Aside0.mk (ho); clear HO_3; clear HB; clear HO_4; have HO_3 := n0_; have HB := n1_; have HO340 := n2_; clear n0_ n1_ n2_; clear ho hb hg hat))
                  go_roundg k2
                  case measure => have := HJ1.out; have := HK2.out; omega
                  case rel => exact ⟨(y338), (wrap64 (x6_2 - 1)), (by first | rfl | (simp; done) | (simp [*]; done)), H', ⟨by have := HJ1.out; have := HK2.out; omega⟩, ⟨by (with_reducible repeat (first | apply Kd.R_alloc | apply Kd.R_drewN | apply Kd.R_drew)); exact Kd.R_mono HO_3.out (fun _ hk => hk.2)⟩, ⟨by (with_reducible repeat (first | apply Kd.R_alloc | apply Kd.R_drewN | apply Kd.R_drew)); exact HO340.out⟩, ⟨by repeat (first | (with_reducible first | exact HB.out | apply below_alloc | apply pw_below_drewN | apply below_drew1) | exact HB.out)⟩⟩
                · rw [if_neg c13] at H
                  exact absurd H (by simp)
              · rw [if_neg c12] at H
                exact absurd H (by simp)
            · rw [if_neg c11] at H
              exact absurd H (by simp)
          · rw [if_neg c10] at H
            have c10b0 : decide (0 ≤ x6_2) = false := decide_eq_false c10
            clear c10
            replace H := Option.bind_eq_some_iff.mp H
            obtain ⟨⟨t341, t342⟩, A150, H⟩ := H
            replace H : ((version_Max.f k2 x4_2).bind fun bt343 => (if t341.toList = bt343.1.toList then (graftwoodlaw03_VersionMost.j3 k2 x3_1 t341 t342 (t342 != bt343.2)) else (graftwoodlaw03_VersionMost.j3 k2 x3_1 t341 t342 true))) = some r := H
            have A15 := Aside0.mk A150
            clear A150
            replace H := Option.bind_eq_some_iff.mp H
            obtain ⟨⟨t343, t344⟩, A160, H⟩ := H
            replace H : (if t341.toList = t343.toList then (graftwoodlaw03_VersionMost.j3 k2 x3_1 t341 t342 (t342 != t344)) else (graftwoodlaw03_VersionMost.j3 k2 x3_1 t341 t342 true)) = some r := H
            have A16 := Aside0.mk A160
            clear A160
            have HC17 := Aside0.mk H
            clear H
            go_upto_region 12 with (first | ((with_reducible refine gate_callee (f := 16) rfl ?_); refine goesL_ (some 49) rfl rfl Tryd.func16 (by kernel_rfl) rfl #[.slice Ao9 x3_1.length co9] rfl (by (try simp only [List.map_toArray, List.map_cons, List.map_nil]); first | done | rfl | (simp only [List.length_drop, List.length_take]; rfl)) ?_; (with_reducible refine (version_Max.calls k2 _ _ x3_1 t341 t342 _ ?side1 ?side2 A15.out).mono ?_); (case side1 => repeat (first | exact (Kd.R_reads' HO_3.out).2.2 | (with_reducible refine Kd.C_alloc ?_ _) | (with_reducible refine Kd.C_drewN ?_ _) | (with_reducible refine Kd.C_drew ?_))); (case side2 => exact (Kd.R_reads' HO_3.out).2.1); rintro e w18 ⟨rfl, hb⟩; refine ⟨_, rfl, ?_⟩; have n0_ := Aside0.mk (Kd.R_below (by (with_reducible repeat (first | apply Kd.R_alloc | apply Kd.R_drewN | apply Kd.R_drew)); exact HO_3.out) hb); have n1_ := Aside0.mk (Kd.R_below (by (with_reducible repeat (first | apply Kd.R_alloc | apply Kd.R_drewN | apply Kd.R_drew)); exact HO_4.out) hb); have n2_ := Aside0.mk (below_step (by repeat (first | (with_reducible first | exact HB.out | apply below_alloc | apply pw_below_drewN | apply below_drew1) | exact HB.out)) hb); clear HO_3; clear HO_4; clear HB; have HO_3 := n0_; have HO_4 := n1_; have HB := n2_; clear n0_ n1_ n2_; (try clear hb); (try clear hb2); (try clear hk); (try clear hi); obtain ⟨Ao19, co19, eo19⟩ := Kd.R_slice HO_4.out; subst eo19) | ((with_reducible refine gate_callee (f := 16) rfl ?_); refine goesL_ (some 54) rfl rfl Tryd.func16 (by kernel_rfl) rfl #[.slice Ao19 x4_2.length co19] rfl (by (try simp only [List.map_toArray, List.map_cons, List.map_nil]); first | done | rfl | (simp only [List.length_drop, List.length_take]; rfl)) ?_; (with_reducible refine (version_Max.calls k2 _ _ x4_2 t343 t344 _ ?side1 ?side2 A16.out).mono ?_); (case side1 => repeat (first | exact (Kd.R_reads' HO_4.out).2.2 | (with_reducible refine Kd.C_alloc ?_ _) | (with_reducible refine Kd.C_drewN ?_ _) | (with_reducible refine Kd.C_drew ?_))); (case side2 => exact (Kd.R_reads' HO_4.out).2.1); rintro e w20 ⟨rfl, hb⟩; refine ⟨_, rfl, ?_⟩; have n0_ := Aside0.mk (Kd.R_below (by (with_reducible repeat (first | apply Kd.R_alloc | apply Kd.R_drewN | apply Kd.R_drew)); exact HO_3.out) hb); have n1_ := Aside0.mk (Kd.R_below (by (with_reducible repeat (first | apply Kd.R_alloc | apply Kd.R_drewN | apply Kd.R_drew)); exact HO_4.out) hb); have n2_ := Aside0.mk (below_step (by repeat (first | (with_reducible first | exact HB.out | apply below_alloc | apply pw_below_drewN | apply below_drew1) | exact HB.out)) hb); clear HO_3; clear HO_4; clear HB; have HO_3 := n0_; have HO_4 := n1_; have HB := n2_; clear n0_ n1_ n2_; (try clear hb); (try clear hb2); (try clear hk); (try clear hi)))
            (try simp only [Act.put, List.setIfInBounds_toArray, List.set_cons_zero, List.set_cons_succ])
            go_cut [64] (fun v64 wc => ∃ (kq : Nat) (x64_16 : Bool), v64 = .bool x64_16 ∧ Aside0 (graftwoodlaw03_VersionMost.j3 kq x3_1 t341 t342 x64_16 = some r) ∧ Aside0 (kq ≤ k2) ∧ Aside0 (Kd.R Kd.string 9 wc w.heap.size (fun _ => True) (.slice Ao9 x3_1.length co9) x3_1) ∧ Aside0 (Below w.heap.size w wc))
            case first =>
              have H := HC17.out
              clear HC17
              by_cases c21 : t341.toList = t343.toList
              · rw [if_pos c21] at H
                have c21b0 : (t341.toList == t343.toList) = true := beq_iff_eq.mpr c21
                have c21b1 : (t341.toList != t343.toList) = false := bne_eq_false_iff_eq.mpr c21
                clear c21
                (first | rw [c21b0] | (simp only [i64_w, i32_w]; rw [c21b0]) | skip)
                have H' := Aside0.mk H
                clear H
                go_wp2
                go_meet
                case rel => exact ⟨_, ((t342 != t344)), (by first | rfl | (simp; done) | (simp [*]; done)), H', ⟨by have := HJ1.out; have := HK2.out; first | omega | exact Nat.le_refl _⟩, ⟨by (with_reducible repeat (first | apply Kd.R_alloc | apply Kd.R_drewN | apply Kd.R_drew)); exact Kd.R_mono HO_3.out (fun _ hk => trivial)⟩, ⟨by repeat (first | (with_reducible first | exact HB.out | apply below_alloc | apply pw_below_drewN | apply below_drew1) | exact HB.out)⟩⟩
              · rw [if_neg c21] at H
                have c21b0 : (t341.toList == t343.toList) = false := beq_eq_false_iff_ne.mpr c21
                have c21b1 : (t341.toList != t343.toList) = true := bne_iff_ne.mpr c21
                (first | rw [c21b0] | (simp only [i64_w, i32_w]; rw [c21b0]) | skip)
                have H' := Aside0.mk H
                clear H
                go_wp2
                go_meet
                case rel => exact ⟨_, (true), (by first | rfl | (simp; done) | (simp [*]; done)), H', ⟨by have := HJ1.out; have := HK2.out; first | omega | exact Nat.le_refl _⟩, ⟨by (with_reducible repeat (first | apply Kd.R_alloc | apply Kd.R_drewN | apply Kd.R_drew)); exact Kd.R_mono HO_3.out (fun _ hk => trivial)⟩, ⟨by repeat (first | (with_reducible first | exact HB.out | apply below_alloc | apply pw_below_drewN | apply below_drew1) | exact HB.out)⟩⟩
            case rest =>
              clear HC17
              try clear c1
              try clear c2
              try clear p2
              try clear c3
              try clear c3b0
              try clear p3
              try clear q3
              try clear hx3
              try clear c4
              try clear c4b0
              try clear c5
              try clear c5b0
              try clear p6
              try clear c7
              try clear c10
              try clear c10b0
              try clear c11
              try clear c11b0
              try clear c12
              try clear c12b0
              try clear c13
              try clear c16
              try clear c21
              try clear c21b0
              try clear c21b1
              try clear hx332_0
              try clear hx337_0
              try clear p2
              try clear p3
              try clear p332
              try clear p337
              try clear p6
              try clear q3
              try clear q332
              try clear q337
              obtain ⟨kq, x64_16, rfl, HA, HJ16, HO_3, HB⟩ := hcut
              cases kq with
              | zero => exact absurd HA.out (by simp [graftwoodlaw03_VersionMost.j3])
              | succ kj16 =>
                have H := HA.out
                clear HA
                simp only [graftwoodlaw03_VersionMost.j3] at H
                by_cases c22 : x64_16 = true
                · subst c22
                  have H1 : (some false) = some r := by rw [if_pos rfl] at H; exact H
                  clear H
                  have H := H1
                  clear H1
                  obtain rfl := Option.some.inj H
                  go_wp2
                  go_ret
                  exact ⟨by first | rfl | (simp [errW_none, errW_some] <;> rfl) | (simp [*, errW_none, errW_some] <;> rfl), by repeat (first | (with_reducible first | exact HB.out | apply below_alloc | apply pw_below_drewN | apply below_drew1) | exact HB.out)⟩
                · replace c22 := Bool.eq_false_iff.mpr c22
                  subst c22
                  have H1 : (if t342 = 0 then (graftwoodlaw03_VersionMost.l2 kj16 x3_1 t341 false 0) else ((graftwoodlaw03_awake.f kj16).bind fun t345 => (some t345))) = some r := by rw [if_neg (show ¬ (false = true) by decide)] at H; exact H
                  clear H
                  have H := H1
                  clear H1
                  by_cases c23 : t342 = 0
                  · rw [if_pos c23] at H
                    have c23b0 : (t342 == 0) = true := beq_iff_eq.mpr c23
                    have c23b1 : (t342 != 0) = false := bne_eq_false_iff_eq.mpr c23
                    clear c23
                    have H' := Aside0.mk H
                    clear H
                    go_wp2
                    go_loopg [11, 12] kj16 (fun kq v11 v12 w' => ∃ (x11_4 : Bool) (x12_4 : Int), v11 = .bool x11_4 ∧ v12 = .int .i64 x12_4 ∧ Aside0 (graftwoodlaw03_VersionMost.l2 kq x3_1 t341 x11_4 x12_4 = some r) ∧ Aside0 (kq ≤ kj16) ∧ Aside0 (Kd.R Kd.string 9 w' w.heap.size (fun _ => True) (.slice Ao9 x3_1.length co9) x3_1) ∧ Aside0 (Below w.heap.size w w'))
                    case atStart => exact ⟨(false), (0), (by first | rfl | (simp; done) | (simp [*]; done)), (by first | rfl | (simp; done) | (simp [*]; done)), H', ⟨Nat.le_refl _⟩, ⟨by (with_reducible repeat (first | apply Kd.R_alloc | apply Kd.R_drewN | apply Kd.R_drew)); exact HO_3.out⟩, ⟨by repeat (first | (with_reducible first | exact HB.out | apply below_alloc | apply pw_below_drewN | apply below_drew1) | exact HB.out)⟩⟩
                    case round =>
                      clear H'
                      try clear c1
                      try clear c2
                      try clear p2
                      try clear c3
                      try clear c3b0
                      try clear p3
                      try clear q3
                      try clear hx3
                      try clear c4
                      try clear c4b0
                      try clear c5
                      try clear c5b0
                      try clear p6
                      try clear c7
                      try clear c10
                      try clear c10b0
                      try clear c11
                      try clear c11b0
                      try clear c12
                      try clear c12b0
                      try clear c13
                      try clear c16
                      try clear c21
                      try clear c21b0
                      try clear c21b1
                      try clear c22
                      try clear c23
                      try clear c23b0
                      try clear c23b1
                      try clear hx332_0
                      try clear hx337_0
                      try clear p2
                      try clear p3
                      try clear p332
                      try clear p337
                      try clear p6
                      try clear q3
                      try clear q332
                      try clear q337
                      obtain ⟨x11_4, x12_4, rfl, rfl, HA, HK4, HO_3, HB⟩ := hrel
                      cases gk with
                      | zero => exact absurd HA.out (by simp [graftwoodlaw03_VersionMost.l2])
                      | succ k4 =>
                        have H := HA.out
                        clear HA
                        simp only [graftwoodlaw03_VersionMost.l2] at H
                        by_cases c24 : x12_4 < (x3_1.length : Int)
                        · rw [if_pos c24] at H
                          have c24b0 : decide (x12_4 < (x3_1.length : Int)) = true := decide_eq_true c24
                          clear c24
                          by_cases c25 : 0 ≤ x12_4
                          · rw [if_pos c25] at H
                            have c25b0 : decide (0 ≤ x12_4) = true := decide_eq_true c25
                            clear c25
                            replace H := Option.bind_eq_some_iff.mp H
                            obtain ⟨⟨t347, t348⟩, A260, H⟩ := H
                            replace H : (if t348 = 0 then (if t347 > 0 then (some false) else (if x11_4 = true then (graftwoodlaw03_VersionMost.l2 k4 x3_1 t341 true (wrap64 (x12_4 + 1))) else (graftwoodlaw03_VersionMost.l2 k4 x3_1 t341 ((rdOf ByteArray.empty x3_1 x12_4).toList == t341.toList) (wrap64 (x12_4 + 1))))) else (some false)) = some r := H
                            have A26 := Aside0.mk A260
                            clear A260
                            by_cases c27 : t348 = 0
                            · rw [if_pos c27] at H
                              have c27b0 : (t348 == 0) = true := beq_iff_eq.mpr c27
                              have c27b1 : (t348 != 0) = false := bne_eq_false_iff_eq.mpr c27
                              clear c27
                              by_cases c28 : t347 > 0
                              · rw [if_pos c28] at H
                                have c28b0 : decide (0 < t347) = true := decide_eq_true c28
                                clear c28
                                obtain rfl := Option.some.inj H
                                have p346 : 0 ≤ (x12_4 : Int) := of_decide_eq_true (by first | (with_reducible assumption) | assumption)
                                have q346 : x12_4 < (x3_1.length : Int) := of_decide_eq_true (by first | (with_reducible assumption) | assumption)
                                obtain ⟨ad346, e346, hx346_0⟩ := Kd.at_string (Kd.R_reads' HO_3.out).2.2 x12_4 p346 q346
                                cases e346
                                replace p346 := eq_true p346
                                replace q346 := eq_true q346
                                go_wp2_with (first | ((with_reducible refine gate_callee (f := 11) rfl ?_); refine goesL_ (some 80) rfl rfl Tryd.func11 (by kernel_rfl) rfl #[.string (rdOf ByteArray.empty x3_1 x12_4), .string t341] rfl (by (try simp only [List.map_toArray, List.map_cons, List.map_nil]); first | done | rfl | (simp only [List.length_drop, List.length_take]; rfl)) ?_; (with_reducible refine (version_Cmp.calls k4 (rdOf ByteArray.empty x3_1 x12_4) t341 t347 t348 _ A26.out).mono ?_); rintro e w29 ⟨rfl, hb⟩; refine ⟨_, rfl, ?_⟩; have n0_ := Aside0.mk (Kd.R_below (by (with_reducible repeat (first | apply Kd.R_alloc | apply Kd.R_drewN | apply Kd.R_drew)); exact HO_3.out) hb); have n1_ := Aside0.mk (below_step (by repeat (first | (with_reducible first | exact HB.out | apply below_alloc | apply pw_below_drewN | apply below_drew1) | exact HB.out)) hb); clear HO_3; clear HB; have HO_3 := n0_; have HB := n1_; clear n0_ n1_; (try clear hb); (try clear hb2); (try clear hk); (try clear hi)))
                                go_ret
                                exact ⟨by first | rfl | (simp [errW_none, errW_some] <;> rfl) | (simp [*, errW_none, errW_some] <;> rfl), by repeat (first | (with_reducible first | exact HB.out | apply below_alloc | apply pw_below_drewN | apply below_drew1) | exact HB.out)⟩
                              · rw [if_neg c28] at H
                                have c28b0 : decide (0 < t347) = false := decide_eq_false c28
                                clear c28
                                by_cases c30 : x11_4 = true
                                · subst c30
                                  have H1 : (graftwoodlaw03_VersionMost.l2 k4 x3_1 t341 true (wrap64 (x12_4 + 1))) = some r := by rw [if_pos rfl] at H; exact H
                                  clear H
                                  have H := H1
                                  clear H1
                                  have H' := Aside0.mk H
                                  clear H
                                  have p346 : 0 ≤ (x12_4 : Int) := of_decide_eq_true (by first | (with_reducible assumption) | assumption)
                                  have q346 : x12_4 < (x3_1.length : Int) := of_decide_eq_true (by first | (with_reducible assumption) | assumption)
                                  obtain ⟨ad346, e346, hx346_0⟩ := Kd.at_string (Kd.R_reads' HO_3.out).2.2 x12_4 p346 q346
                                  cases e346
                                  replace p346 := eq_true p346
                                  replace q346 := eq_true q346
                                  go_wp2_with (first | ((with_reducible refine gate_callee (f := 11) rfl ?_); refine goesL_ (some 80) rfl rfl Tryd.func11 (by kernel_rfl) rfl #[.string (rdOf ByteArray.empty x3_1 x12_4), .string t341] rfl (by (try simp only [List.map_toArray, List.map_cons, List.map_nil]); first | done | rfl | (simp only [List.length_drop, List.length_take]; rfl)) ?_; (with_reducible refine (version_Cmp.calls k4 (rdOf ByteArray.empty x3_1 x12_4) t341 t347 t348 _ A26.out).mono ?_); rintro e w31 ⟨rfl, hb⟩; refine ⟨_, rfl, ?_⟩; have n0_ := Aside0.mk (Kd.R_below (by (with_reducible repeat (first | apply Kd.R_alloc | apply Kd.R_drewN | apply Kd.R_drew)); exact HO_3.out) hb); have n1_ := Aside0.mk (below_step (by repeat (first | (with_reducible first | exact HB.out | apply below_alloc | apply pw_below_drewN | apply below_drew1) | exact HB.out)) hb); clear HO_3; clear HB; have HO_3 := n0_; have HB := n1_; clear n0_ n1_; (try clear hb); (try clear hb2); (try clear hk); (try clear hi)))
                                  go_roundg k4
                                  case measure => have := HJ1.out; have := HK2.out; have := HJ16.out; have := HK4.out; omega
                                  case rel => exact ⟨(true), (wrap64 (x12_4 + 1)), (by first | rfl | (simp; done) | (simp [*]; done)), (by first | rfl | (simp; done) | (simp [*]; done)), H', ⟨by have := HJ1.out; have := HK2.out; have := HJ16.out; have := HK4.out; omega⟩, ⟨by (with_reducible repeat (first | apply Kd.R_alloc | apply Kd.R_drewN | apply Kd.R_drew)); exact HO_3.out⟩, ⟨by repeat (first | (with_reducible first | exact HB.out | apply below_alloc | apply pw_below_drewN | apply below_drew1) | exact HB.out)⟩⟩
                                · replace c30 := Bool.eq_false_iff.mpr c30
                                  subst c30
                                  have H1 : (graftwoodlaw03_VersionMost.l2 k4 x3_1 t341 ((rdOf ByteArray.empty x3_1 x12_4).toList == t341.toList) (wrap64 (x12_4 + 1))) = some r := by rw [if_neg (show ¬ (false = true) by decide)] at H; exact H
                                  clear H
                                  have H := H1
                                  clear H1
                                  have H' := Aside0.mk H
                                  clear H
                                  have p346 : 0 ≤ (x12_4 : Int) := of_decide_eq_true (by first | (with_reducible assumption) | assumption)
                                  have q346 : x12_4 < (x3_1.length : Int) := of_decide_eq_true (by first | (with_reducible assumption) | assumption)
                                  obtain ⟨ad346, e346, hx346_0⟩ := Kd.at_string (Kd.R_reads' HO_3.out).2.2 x12_4 p346 q346
                                  cases e346
                                  replace p346 := eq_true p346
                                  replace q346 := eq_true q346
                                  go_wp2_with (first | ((with_reducible refine gate_callee (f := 11) rfl ?_); refine goesL_ (some 80) rfl rfl Tryd.func11 (by kernel_rfl) rfl #[.string (rdOf ByteArray.empty x3_1 x12_4), .string t341] rfl (by (try simp only [List.map_toArray, List.map_cons, List.map_nil]); first | done | rfl | (simp only [List.length_drop, List.length_take]; rfl)) ?_; (with_reducible refine (version_Cmp.calls k4 (rdOf ByteArray.empty x3_1 x12_4) t341 t347 t348 _ A26.out).mono ?_); rintro e w32 ⟨rfl, hb⟩; refine ⟨_, rfl, ?_⟩; have n0_ := Aside0.mk (Kd.R_below (by (with_reducible repeat (first | apply Kd.R_alloc | apply Kd.R_drewN | apply Kd.R_drew)); exact HO_3.out) hb); have n1_ := Aside0.mk (below_step (by repeat (first | (with_reducible first | exact HB.out | apply below_alloc | apply pw_below_drewN | apply below_drew1) | exact HB.out)) hb); clear HO_3; clear HB; have HO_3 := n0_; have HB := n1_; clear n0_ n1_; (try clear hb); (try clear hb2); (try clear hk); (try clear hi); have p349 : 0 ≤ (x12_4 : Int) := of_decide_eq_true (by first | (with_reducible assumption) | assumption); have q349 : x12_4 < (x3_1.length : Int) := of_decide_eq_true (by first | (with_reducible assumption) | assumption); obtain ⟨ad349, e349, hx349_0⟩ := Kd.at_string (Kd.R_reads' HO_3.out).2.2 x12_4 p349 q349; obtain rfl : ad346 = ad349 := (by injection e349); replace p349 := eq_true p349; replace q349 := eq_true q349))
                                  go_roundg k4
                                  case measure => have := HJ1.out; have := HK2.out; have := HJ16.out; have := HK4.out; omega
                                  case rel => exact ⟨(((rdOf ByteArray.empty x3_1 x12_4).toList == t341.toList)), (wrap64 (x12_4 + 1)), (by first | rfl | (simp; done) | (simp [*]; done)), (by first | rfl | (simp; done) | (simp [*]; done)), H', ⟨by have := HJ1.out; have := HK2.out; have := HJ16.out; have := HK4.out; omega⟩, ⟨by (with_reducible repeat (first | apply Kd.R_alloc | apply Kd.R_drewN | apply Kd.R_drew)); exact HO_3.out⟩, ⟨by repeat (first | (with_reducible first | exact HB.out | apply below_alloc | apply pw_below_drewN | apply below_drew1) | exact HB.out)⟩⟩
                            · rw [if_neg c27] at H
                              have c27b0 : (t348 == 0) = false := beq_eq_false_iff_ne.mpr c27
                              have c27b1 : (t348 != 0) = true := bne_iff_ne.mpr c27
                              obtain rfl := Option.some.inj H
                              have p346 : 0 ≤ (x12_4 : Int) := of_decide_eq_true (by first | (with_reducible assumption) | assumption)
                              have q346 : x12_4 < (x3_1.length : Int) := of_decide_eq_true (by first | (with_reducible assumption) | assumption)
                              obtain ⟨ad346, e346, hx346_0⟩ := Kd.at_string (Kd.R_reads' HO_3.out).2.2 x12_4 p346 q346
                              cases e346
                              replace p346 := eq_true p346
                              replace q346 := eq_true q346
                              go_wp2_with (first | ((with_reducible refine gate_callee (f := 11) rfl ?_); refine goesL_ (some 80) rfl rfl Tryd.func11 (by kernel_rfl) rfl #[.string (rdOf ByteArray.empty x3_1 x12_4), .string t341] rfl (by (try simp only [List.map_toArray, List.map_cons, List.map_nil]); first | done | rfl | (simp only [List.length_drop, List.length_take]; rfl)) ?_; (with_reducible refine (version_Cmp.calls k4 (rdOf ByteArray.empty x3_1 x12_4) t341 t347 t348 _ A26.out).mono ?_); rintro e w33 ⟨rfl, hb⟩; refine ⟨_, rfl, ?_⟩; have n0_ := Aside0.mk (Kd.R_below (by (with_reducible repeat (first | apply Kd.R_alloc | apply Kd.R_drewN | apply Kd.R_drew)); exact HO_3.out) hb); have n1_ := Aside0.mk (below_step (by repeat (first | (with_reducible first | exact HB.out | apply below_alloc | apply pw_below_drewN | apply below_drew1) | exact HB.out)) hb); clear HO_3; clear HB; have HO_3 := n0_; have HB := n1_; clear n0_ n1_; (try clear hb); (try clear hb2); (try clear hk); (try clear hi)))
                              go_ret
                              exact ⟨by first | rfl | (simp [errW_none, errW_some] <;> rfl) | (simp [*, errW_none, errW_some] <;> rfl), by repeat (first | (with_reducible first | exact HB.out | apply below_alloc | apply pw_below_drewN | apply below_drew1) | exact HB.out)⟩
                          · rw [if_neg c25] at H
                            exact absurd H (by simp)
                        · rw [if_neg c24] at H
                          have c24b0 : decide (x12_4 < (x3_1.length : Int)) = false := decide_eq_false c24
                          clear c24
                          by_cases c34 : x11_4 = true
                          · subst c34
                            have H1 : ((graftwoodlaw03_awake.f k4).bind fun t350 => (some t350)) = some r := by rw [if_pos rfl] at H; exact H
                            clear H
                            have H := H1
                            clear H1
                            replace H := Option.bind_eq_some_iff.mp H
                            obtain ⟨t350, A350, H⟩ := H
                            replace H : (some t350) = some r := H
                            have A35 := Aside0.mk A350
                            clear A350
                            obtain rfl := Option.some.inj H
                            go_wp2_with (first | (go_at_call 13; (with_reducible refine (graftwoodlaw03_awake.calls k4  t350 _ A35.out).mono ?_); rintro e w36 ⟨rfl, hb⟩; have n0_ := Aside0.mk (Kd.R_below (by (with_reducible repeat (first | apply Kd.R_alloc | apply Kd.R_drewN | apply Kd.R_drew)); exact HO_3.out) hb); have n1_ := Aside0.mk (below_step (by repeat (first | (with_reducible first | exact HB.out | apply below_alloc | apply pw_below_drewN | apply below_drew1) | exact HB.out)) hb); clear HO_3; clear HB; have HO_3 := n0_; have HB := n1_; clear n0_ n1_; (try clear hb); (try clear hb2); (try clear hk); (try clear hi)))
                            go_ret
                            exact ⟨by first | rfl | (simp [errW_none, errW_some] <;> rfl) | (simp [*, errW_none, errW_some] <;> rfl), by repeat (first | (with_reducible first | exact HB.out | apply below_alloc | apply pw_below_drewN | apply below_drew1) | exact HB.out)⟩
                          · replace c34 := Bool.eq_false_iff.mpr c34
                            subst c34
                            have H1 : (some false) = some r := by rw [if_neg (show ¬ (false = true) by decide)] at H; exact H
                            clear H
                            have H := H1
                            clear H1
                            obtain rfl := Option.some.inj H
                            go_wp2
                            go_ret
                            exact ⟨by first | rfl | (simp [errW_none, errW_some] <;> rfl) | (simp [*, errW_none, errW_some] <;> rfl), by repeat (first | (with_reducible first | exact HB.out | apply below_alloc | apply pw_below_drewN | apply below_drew1) | exact HB.out)⟩
                  · rw [if_neg c23] at H
                    have c23b0 : (t342 == 0) = false := beq_eq_false_iff_ne.mpr c23
                    have c23b1 : (t342 != 0) = true := bne_iff_ne.mpr c23
                    replace H := Option.bind_eq_some_iff.mp H
                    obtain ⟨t345, A370, H⟩ := H
                    replace H : (some t345) = some r := H
                    have A37 := Aside0.mk A370
                    clear A370
                    obtain rfl := Option.some.inj H
                    go_wp2_with (first | ((with_reducible refine gate_callee (f := 13) rfl ?_); refine goesL_ (some 67) rfl rfl Tryd.func13 (by kernel_rfl) rfl #[] rfl (by (try simp only [List.map_toArray, List.map_cons, List.map_nil]); first | done | rfl | (simp only [List.length_drop, List.length_take]; rfl)) ?_; (with_reducible refine (graftwoodlaw03_awake.calls kj16  t345 _ A37.out).mono ?_); rintro e w38 ⟨rfl, hb⟩; refine ⟨_, rfl, ?_⟩; have n0_ := Aside0.mk (Kd.R_below (by (with_reducible repeat (first | apply Kd.R_alloc | apply Kd.R_drewN | apply Kd.R_drew)); exact HO_3.out) hb); have n1_ := Aside0.mk (below_step (by repeat (first | (with_reducible first | exact HB.out | apply below_alloc | apply pw_below_drewN | apply below_drew1) | exact HB.out)) hb); clear HO_3; clear HB; have HO_3 := n0_; have HB := n1_; clear n0_ n1_; (try clear hb); (try clear hb2); (try clear hk); (try clear hi)))
                    go_ret
                    exact ⟨by first | rfl | (simp [errW_none, errW_some] <;> rfl) | (simp [*, errW_none, errW_some] <;> rfl), by repeat (first | (with_reducible first | exact HB.out | apply below_alloc | apply pw_below_drewN | apply below_drew1) | exact HB.out)⟩

end Go.Proofs.YtjadpeahoaogcaaDoor.P
