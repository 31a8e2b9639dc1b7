-- Written by this project's own program (wip/tools/hp.py), driving the kit's print; hand texts among it. Not trusted: Lean checks it.
-- half the indentation
import Derived.Test.YtjadpeahoaogcaaDoorP0
import Derived.Test.YtjadpeahoaogcaaDoorP2
import Derived.Test.YtjadpeahoaogcaaDoorP14
import Derived.Test.YtjadpeahoaogcaaDoorP15
import Derived.Test.YtjadpeahoaogcaaDoorP18
import Derived.Test.YtjadpeahoaogcaaDoorP20
import Derived.Test.YtjadpeahoaogcaaDoorP21
namespace Go.Proofs.YtjadpeahoaogcaaDoor.P
open Go.RowKit Go.Proofs.YtjadpeahoaogcaaDoorW.PrintWords Go.Proofs.YtjadpeahoaogcaaDoorW.PrintLast Go.Proofs.YtjadpeahoaogcaaDoorW.PrintMore
attribute [local go_sem] max2_int min2_int max_two min_two max_three min_three max_four min_four   -- for this text's walks alone
set_option linter.unusedVariables false
set_option linter.unusedSimpArgs false

/-! ### graftwoodlaw03_VersionOrders: function 4 -/
mutual
def graftwoodlaw03_VersionOrders.j0 : Nat → ByteArray → ByteArray → List ByteArray → Int → Int → Bool → Option (Bool)
 | 0, _, _, _, _, _, _ => none
 | k + 1, x0, x1, x2, x7, x8, x32 => if x32 = true then (if x7 = 0 then (if x8 = 1 then (graftwoodlaw03_VersionOrders.j1 k x2) else (some false)) else (some false)) else ((graftwoodref03_Cmp.f k x0 x1).bind fun t315 => (if x7 = t315 then (if x8 = 0 then (graftwoodlaw03_VersionOrders.j1 k x2) else (some false)) else (some false)))
def graftwoodlaw03_VersionOrders.j1 : Nat → List ByteArray → Option (Bool)
 | 0, _ => none
 | k + 1, x2 => graftwoodlaw03_VersionOrders.l0 k x2 ([] : List ByteArray) 0
def graftwoodlaw03_VersionOrders.j3 : Nat → List ByteArray → Option (Bool)
 | 0, _ => none
 | k + 1, x9 => (version_Max.f k x9).bind fun bt321 => (if (x9.length : Int) = 0 then (if bt321.1.toList = ([] : List UInt8) then (if bt321.2 = 2 then ((graftwoodlaw03_awake.f k).bind fun t323 => (some t323)) else (some false)) else (some false)) else (if 0 < (x9.length : Int) then (graftwoodlaw03_VersionOrders.l1 k x9 bt321.1 bt321.2 (rdOf ByteArray.empty x9 0) 0) else (none)))
def graftwoodlaw03_VersionOrders.l1 : Nat → List ByteArray → ByteArray → Int → ByteArray → Int → Option (Bool)
 | 0, _, _, _, _, _ => none
 | k + 1, x9, x11, x12, x13, x14 => if x14 < (x9.length : Int) then (if 0 ≤ x14 then ((graftwoodref03_May.f k (rdOf ByteArray.empty x9 x14)).bind fun t327 => (if t327 = true then ((graftwoodref03_Cmp.f k (rdOf ByteArray.empty x9 x14) x13).bind fun t329 => (if t329 > 0 then (graftwoodlaw03_VersionOrders.l1 k x9 x11 x12 (rdOf ByteArray.empty x9 x14) (wrap64 (x14 + 1))) else (graftwoodlaw03_VersionOrders.l1 k x9 x11 x12 x13 (wrap64 (x14 + 1))))) else (if x11.toList = ([] : List UInt8) then (if x12 = 1 then ((graftwoodlaw03_awake.f k).bind fun t331 => (some t331)) else (some false)) else (some false)))) else (none)) else (if x11.toList = x13.toList then (if x12 = 0 then ((graftwoodlaw03_awake.f k).bind fun t325 => (some t325)) else (some false)) else (some false))
def graftwoodlaw03_VersionOrders.l0 : Nat → List ByteArray → List ByteArray → Int → Option (Bool)
 | 0, _, _, _ => none
 | k + 1, x2, x9, x10 => if x10 < (x2.length : Int) then (if x10 < 12 then (if 0 ≤ x10 then ((graftwoodlaw01_Few.f (rdOf ByteArray.empty x2 x10)).bind fun t317 => (if x9.length < 8796093022208 then (graftwoodlaw03_VersionOrders.l0 k x2 (x9 ++ [t317]) (wrap64 (x10 + 1))) else (none))) else (none)) else (graftwoodlaw03_VersionOrders.j3 k x9)) else (graftwoodlaw03_VersionOrders.j3 k x9)
end
def graftwoodlaw03_VersionOrders.f (k : Nat) (a0 : ByteArray) (a1 : ByteArray) (l2 : List ByteArray) : Option (Bool) := (graftwoodlaw01_Few.f a0).bind fun t309 => ((graftwoodlaw01_Few.f a1).bind fun t310 => ((version_Cmp.f k t309 t310).bind fun bt311 => ((graftwoodref03_May.f k t309).bind fun t313 => (if t313 = true then ((graftwoodref03_May.f k t310).bind fun t314 => (graftwoodlaw03_VersionOrders.j0 k t309 t310 l2 bt311.1 bt311.2 (!t314))) else (graftwoodlaw03_VersionOrders.j0 k t309 t310 l2 bt311.1 bt311.2 true)))))
theorem graftwoodlaw03_VersionOrders.mono_l : ∀ k, (∀ y0 y1 y2 y3 y4 y5, LeO (graftwoodlaw03_VersionOrders.j0 k y0 y1 y2 y3 y4 y5) (graftwoodlaw03_VersionOrders.j0 (k + 1) y0 y1 y2 y3 y4 y5)) ∧ (∀ y0, LeO (graftwoodlaw03_VersionOrders.j1 k y0) (graftwoodlaw03_VersionOrders.j1 (k + 1) y0)) ∧ (∀ y0, LeO (graftwoodlaw03_VersionOrders.j3 k y0) (graftwoodlaw03_VersionOrders.j3 (k + 1) y0)) ∧ (∀ y0 y1 y2 y3 y4, LeO (graftwoodlaw03_VersionOrders.l1 k y0 y1 y2 y3 y4) (graftwoodlaw03_VersionOrders.l1 (k + 1) y0 y1 y2 y3 y4)) ∧ (∀ y0 y1 y2, LeO (graftwoodlaw03_VersionOrders.l0 k y0 y1 y2) (graftwoodlaw03_VersionOrders.l0 (k + 1) y0 y1 y2))
 | 0 => ⟨fun _ _ _ _ _ _ r h => by simp [graftwoodlaw03_VersionOrders.j0] at h, fun _ r h => by simp [graftwoodlaw03_VersionOrders.j1] at h, fun _ r h => by simp [graftwoodlaw03_VersionOrders.j3] at h, fun _ _ _ _ _ r h => by simp [graftwoodlaw03_VersionOrders.l1] at h, fun _ _ _ r h => by simp [graftwoodlaw03_VersionOrders.l0] at h⟩
 | k + 1 => by
  obtain ⟨ih0, ih1, ih2, ih3, ih4⟩ := graftwoodlaw03_VersionOrders.mono_l k
  refine ⟨?_, ?_, ?_, ?_, ?_⟩
  ·intro y0 y1 y2 y3 y4 y5
   unfold graftwoodlaw03_VersionOrders.j0
   repeat' first
   | (with_reducible exact ih0 _ _ _ _ _ _)
   | (with_reducible exact ih1 _)
   | (with_reducible exact ih2 _)
   | (with_reducible exact ih3 _ _ _ _ _)
   | (with_reducible exact ih4 _ _ _)
   | (with_reducible exact graftwoodlaw03_awake.mono _)
   | (with_reducible exact graftwoodref03_Cmp.mono _ _ _)
   | (with_reducible exact graftwoodref03_May.mono _ _)
   | (with_reducible exact version_Cmp.mono _ _ _)
   | (with_reducible exact version_Max.mono _ _)
   | (with_reducible exact LeO.refl _)
   | (with_reducible exact LeO.none _)
   | (with_reducible refine LeO.ite ?_ ?_)
   | (with_reducible refine LeO.bind ?_ (fun _ => ?_))
   | exact ih0 _ _ _ _ _ _
   | exact ih1 _
   | exact ih2 _
   | exact ih3 _ _ _ _ _
   | exact ih4 _ _ _
   | exact graftwoodlaw03_awake.mono _
   | exact graftwoodref03_Cmp.mono _ _ _
   | exact graftwoodref03_May.mono _ _
   | exact version_Cmp.mono _ _ _
   | exact version_Max.mono _ _
   | exact LeO.none _
   | refine LeO.ite ?_ ?_
   | refine LeO.bind ?_ (fun _ => ?_)
  ·intro y0
   unfold graftwoodlaw03_VersionOrders.j1
   repeat' first
   | (with_reducible exact ih0 _ _ _ _ _ _)
   | (with_reducible exact ih1 _)
   | (with_reducible exact ih2 _)
   | (with_reducible exact ih3 _ _ _ _ _)
   | (with_reducible exact ih4 _ _ _)
   | (with_reducible exact graftwoodlaw03_awake.mono _)
   | (with_reducible exact graftwoodref03_Cmp.mono _ _ _)
   | (with_reducible exact graftwoodref03_May.mono _ _)
   | (with_reducible exact version_Cmp.mono _ _ _)
   | (with_reducible exact version_Max.mono _ _)
   | (with_reducible exact LeO.refl _)
   | (with_reducible exact LeO.none _)
   | (with_reducible refine LeO.ite ?_ ?_)
   | (with_reducible refine LeO.bind ?_ (fun _ => ?_))
   | exact ih0 _ _ _ _ _ _
   | exact ih1 _
   | exact ih2 _
   | exact ih3 _ _ _ _ _
   | exact ih4 _ _ _
   | exact graftwoodlaw03_awake.mono _
   | exact graftwoodref03_Cmp.mono _ _ _
   | exact graftwoodref03_May.mono _ _
   | exact version_Cmp.mono _ _ _
   | exact version_Max.mono _ _
   | exact LeO.none _
   | refine LeO.ite ?_ ?_
   | refine LeO.bind ?_ (fun _ => ?_)
  ·intro y0
   unfold graftwoodlaw03_VersionOrders.j3
   repeat' first
   | (with_reducible exact ih0 _ _ _ _ _ _)
   | (with_reducible exact ih1 _)
   | (with_reducible exact ih2 _)
   | (with_reducible exact ih3 _ _ _ _ _)
   | (with_reducible exact ih4 _ _ _)
   | (with_reducible exact graftwoodlaw03_awake.mono _)
   | (with_reducible exact graftwoodref03_Cmp.mono _ _ _)
   | (with_reducible exact graftwoodref03_May.mono _ _)
   | (with_reducible exact version_Cmp.mono _ _ _)
   | (with_reducible exact version_Max.mono _ _)
   | (with_reducible exact LeO.refl _)
   | (with_reducible exact LeO.none _)
   | (with_reducible refine LeO.ite ?_ ?_)
   | (with_reducible refine LeO.bind ?_ (fun _ => ?_))
   | exact ih0 _ _ _ _ _ _
   | exact ih1 _
   | exact ih2 _
   | exact ih3 _ _ _ _ _
   | exact ih4 _ _ _
   | exact graftwoodlaw03_awake.mono _
   | exact graftwoodref03_Cmp.mono _ _ _
   | exact graftwoodref03_May.mono _ _
   | exact version_Cmp.mono _ _ _
   | exact version_Max.mono _ _
   | exact LeO.none _
   | refine LeO.ite ?_ ?_
   | refine LeO.bind ?_ (fun _ => ?_)
  ·intro y0 y1 y2 y3 y4
   unfold graftwoodlaw03_VersionOrders.l1
   repeat' first
   | (with_reducible exact ih0 _ _ _ _ _ _)
   | (with_reducible exact ih1 _)
   | (with_reducible exact ih2 _)
   | (with_reducible exact ih3 _ _ _ _ _)
   | (with_reducible exact ih4 _ _ _)
   | (with_reducible exact graftwoodlaw03_awake.mono _)
   | (with_reducible exact graftwoodref03_Cmp.mono _ _ _)
   | (with_reducible exact graftwoodref03_May.mono _ _)
   | (with_reducible exact version_Cmp.mono _ _ _)
   | (with_reducible exact version_Max.mono _ _)
   | (with_reducible exact LeO.refl _)
   | (with_reducible exact LeO.none _)
   | (with_reducible refine LeO.ite ?_ ?_)
   | (with_reducible refine LeO.bind ?_ (fun _ => ?_))
   | exact ih0 _ _ _ _ _ _
   | exact ih1 _
   | exact ih2 _
   | exact ih3 _ _ _ _ _
   | exact ih4 _ _ _
   | exact graftwoodlaw03_awake.mono _
   | exact graftwoodref03_Cmp.mono _ _ _
   | exact graftwoodref03_May.mono _ _
   | exact version_Cmp.mono _ _ _
   | exact version_Max.mono _ _
   | exact LeO.none _
   | refine LeO.ite ?_ ?_
   | refine LeO.bind ?_ (fun _ => ?_)
  ·intro y0 y1 y2
   unfold graftwoodlaw03_VersionOrders.l0
   repeat' first
   | (with_reducible exact ih0 _ _ _ _ _ _)
   | (with_reducible exact ih1 _)
   | (with_reducible exact ih2 _)
   | (with_reducible exact ih3 _ _ _ _ _)
   | (with_reducible exact ih4 _ _ _)
   | (with_reducible exact graftwoodlaw03_awake.mono _)
   | (with_reducible exact graftwoodref03_Cmp.mono _ _ _)
   | (with_reducible exact graftwoodref03_May.mono _ _)
   | (with_reducible exact version_Cmp.mono _ _ _)
   | (with_reducible exact version_Max.mono _ _)
   | (with_reducible exact LeO.refl _)
   | (with_reducible exact LeO.none _)
   | (with_reducible refine LeO.ite ?_ ?_)
   | (with_reducible refine LeO.bind ?_ (fun _ => ?_))
   | exact ih0 _ _ _ _ _ _
   | exact ih1 _
   | exact ih2 _
   | exact ih3 _ _ _ _ _
   | exact ih4 _ _ _
   | exact graftwoodlaw03_awake.mono _
   | exact graftwoodref03_Cmp.mono _ _ _
   | exact graftwoodref03_May.mono _ _
   | exact version_Cmp.mono _ _ _
   | exact version_Max.mono _ _
   | exact LeO.none _
   | refine LeO.ite ?_ ?_
   | refine LeO.bind ?_ (fun _ => ?_)
theorem graftwoodlaw03_VersionOrders.mono : ∀ a0 a1 a2 k, LeO (graftwoodlaw03_VersionOrders.f k a0 a1 a2) (graftwoodlaw03_VersionOrders.f (k + 1) a0 a1 a2) := by
 intro a0 a1 a2 k
 obtain ⟨ih0, ih1, ih2, ih3, ih4⟩ := graftwoodlaw03_VersionOrders.mono_l k
 unfold graftwoodlaw03_VersionOrders.f
 repeat' first
   | (with_reducible exact ih0 _ _ _ _ _ _)
   | (with_reducible exact ih1 _)
   | (with_reducible exact ih2 _)
   | (with_reducible exact ih3 _ _ _ _ _)
   | (with_reducible exact ih4 _ _ _)
   | (with_reducible exact graftwoodlaw03_awake.mono _)
   | (with_reducible exact graftwoodref03_Cmp.mono _ _ _)
   | (with_reducible exact graftwoodref03_May.mono _ _)
   | (with_reducible exact version_Cmp.mono _ _ _)
   | (with_reducible exact version_Max.mono _ _)
   | (with_reducible exact LeO.refl _)
   | (with_reducible exact LeO.none _)
   | (with_reducible refine LeO.ite ?_ ?_)
   | (with_reducible refine LeO.bind ?_ (fun _ => ?_))
   | exact ih0 _ _ _ _ _ _
   | exact ih1 _
   | exact ih2 _
   | exact ih3 _ _ _ _ _
   | exact ih4 _ _ _
   | exact graftwoodlaw03_awake.mono _
   | exact graftwoodref03_Cmp.mono _ _ _
   | exact graftwoodref03_May.mono _ _
   | exact version_Cmp.mono _ _ _
   | exact version_Max.mono _ _
   | exact LeO.none _
   | refine LeO.ite ?_ ?_
   | refine LeO.bind ?_ (fun _ => ?_)
set_option maxHeartbeats 8000000 in
set_option maxRecDepth 100000 in
theorem graftwoodlaw03_VersionOrders.calls (k : Nat) (a0 : ByteArray) (a1 : ByteArray) (A2 : Option Addr) (c2 : Nat) (l2 : List ByteArray) (r : Bool) (w : World) (hr2 : Kd.C Kd.string w A2 l2.length l2) (hc2 : l2.length ≤ c2) (h : graftwoodlaw03_VersionOrders.f k a0 a1 l2 = some r) :
  Calls Tryd.prog 4 #[.string a0, .string a1, .slice A2 l2.length c2] w fun e w' => e = .returned (.bool r) ∧ Below w.heap.size w w' := by
 have HR2 := Aside0.mk hr2
 have HC2 := Aside0.mk hc2
 clear hr2 hc2
 have HB := Aside0.mk (Below.refl w.heap.size w)
 have H : ((graftwoodlaw01_Few.f a0).bind fun t309 => ((graftwoodlaw01_Few.f a1).bind fun t310 => ((version_Cmp.f k t309 t310).bind fun bt311 => ((graftwoodref03_May.f k t309).bind fun t313 => (if t313 = true then ((graftwoodref03_May.f k t310).bind fun t314 => (graftwoodlaw03_VersionOrders.j0 k t309 t310 l2 bt311.1 bt311.2 (!t314))) else (graftwoodlaw03_VersionOrders.j0 k t309 t310 l2 bt311.1 bt311.2 true)))))) = some r := h
 clear h
 replace H := Option.bind_eq_some_iff.mp H
 obtain ⟨t309, A40, H⟩ := H
 replace H : ((graftwoodlaw01_Few.f a1).bind fun t310 => ((version_Cmp.f k t309 t310).bind fun bt311 => ((graftwoodref03_May.f k t309).bind fun t313 => (if t313 = true then ((graftwoodref03_May.f k t310).bind fun t314 => (graftwoodlaw03_VersionOrders.j0 k t309 t310 l2 bt311.1 bt311.2 (!t314))) else (graftwoodlaw03_VersionOrders.j0 k t309 t310 l2 bt311.1 bt311.2 true))))) = some r := H
 have A4 := Aside0.mk A40
 clear A40
 replace H := Option.bind_eq_some_iff.mp H
 obtain ⟨t310, A50, H⟩ := H
 replace H : ((version_Cmp.f k t309 t310).bind fun bt311 => ((graftwoodref03_May.f k t309).bind fun t313 => (if t313 = true then ((graftwoodref03_May.f k t310).bind fun t314 => (graftwoodlaw03_VersionOrders.j0 k t309 t310 l2 bt311.1 bt311.2 (!t314))) else (graftwoodlaw03_VersionOrders.j0 k t309 t310 l2 bt311.1 bt311.2 true)))) = some r := H
 have A5 := Aside0.mk A50
 clear A50
 replace H := Option.bind_eq_some_iff.mp H
 obtain ⟨⟨t311, t312⟩, A60, H⟩ := H
 replace H : ((graftwoodref03_May.f k t309).bind fun t313 => (if t313 = true then ((graftwoodref03_May.f k t310).bind fun t314 => (graftwoodlaw03_VersionOrders.j0 k t309 t310 l2 t311 t312 (!t314))) else (graftwoodlaw03_VersionOrders.j0 k t309 t310 l2 t311 t312 true))) = some r := H
 have A6 := Aside0.mk A60
 clear A60
 have HC7 := Aside0.mk H
 clear H
 go_enter Tryd.func4, Tryd.ntmps4
 go_upto_region 3 with (first | ((with_reducible refine gate_callee (f := 10) rfl ?_); refine goesL_ (some 16) rfl rfl Tryd.func10 (by kernel_rfl) rfl #[.string a0] rfl (by (try simp only [List.map_toArray, List.map_cons, List.map_nil]); first | done | rfl | (simp only [List.length_drop, List.length_take]; rfl)) ?_; (with_reducible refine (graftwoodlaw01_Few.calls a0 t309 _ A4.out).mono ?_); rintro e w' ⟨rfl, ⟨nd, rfl⟩⟩; refine ⟨_, rfl, ?_⟩) | ((with_reducible refine gate_callee (f := 10) rfl ?_); refine goesL_ (some 18) rfl rfl Tryd.func10 (by kernel_rfl) rfl #[.string a1] rfl (by (try simp only [List.map_toArray, List.map_cons, List.map_nil]); first | done | rfl | (simp only [List.length_drop, List.length_take]; rfl)) ?_; (with_reducible refine (graftwoodlaw01_Few.calls a1 t310 _ A5.out).mono ?_); rintro e w' ⟨rfl, ⟨nd, rfl⟩⟩; refine ⟨_, rfl, ?_⟩) | ((with_reducible refine gate_callee (f := 11) rfl ?_); refine goesL_ (some 22) rfl rfl Tryd.func11 (by kernel_rfl) rfl #[.string t309, .string t310] rfl (by (try simp only [List.map_toArray, List.map_cons, List.map_nil]); first | done | rfl | (simp only [List.length_drop, List.length_take]; rfl)) ?_; (with_reducible refine (version_Cmp.calls k t309 t310 t311 t312 _ A6.out).mono ?_); rintro e w8 ⟨rfl, hb⟩; refine ⟨_, rfl, ?_⟩; have n0_ := Aside0.mk (below_step (by repeat (first | (with_reducible first | exact HB.out | apply below_alloc | apply pw_below_drewN | apply below_drew1) | exact HB.out)) hb); clear HB; have HB := n0_; clear n0_; (try clear hb); (try clear hb2); (try clear hk); (try clear hi)))
 (try simp only [Act.put, List.setIfInBounds_toArray, List.set_cons_zero, List.set_cons_succ])
 go_cut [32] (fun v32 wc => ∃ (kq : Nat) (x32_6 : Bool), v32 = .bool x32_6 ∧ Aside0 (graftwoodlaw03_VersionOrders.j0 kq t309 t310 l2 t311 t312 x32_6 = some r) ∧ Aside0 (kq ≤ k) ∧ Aside0 (Below w.heap.size w wc))
 case first =>
  have H := HC7.out
  clear HC7
  replace H := Option.bind_eq_some_iff.mp H
  obtain ⟨t313, A90, H⟩ := H
  replace H : (if t313 = true then ((graftwoodref03_May.f k t310).bind fun t314 => (graftwoodlaw03_VersionOrders.j0 k t309 t310 l2 t311 t312 (!t314))) else (graftwoodlaw03_VersionOrders.j0 k t309 t310 l2 t311 t312 true)) = some r := H
  have A9 := Aside0.mk A90
  clear A90
  by_cases c10 : t313 = true
  ·subst c10
   have H1 : ((graftwoodref03_May.f k t310).bind fun t314 => (graftwoodlaw03_VersionOrders.j0 k t309 t310 l2 t311 t312 (!t314))) = some r := by rw [if_pos rfl] at H; exact H
   clear H
   have H := H1
   clear H1
   replace H := Option.bind_eq_some_iff.mp H
   obtain ⟨t314, A110, H⟩ := H
   replace H : (graftwoodlaw03_VersionOrders.j0 k t309 t310 l2 t311 t312 (!t314)) = some r := H
   have A11 := Aside0.mk A110
   clear A110
   have H' := Aside0.mk H
   clear H
   go_wp2_with (first | ((with_reducible refine gate_callee (f := 14) rfl ?_); refine goesL_ (some 26) rfl rfl Tryd.func14 (by kernel_rfl) rfl #[.string t309] rfl (by (try simp only [List.map_toArray, List.map_cons, List.map_nil]); first | done | rfl | (simp only [List.length_drop, List.length_take]; rfl)) ?_; (with_reducible refine (graftwoodref03_May.calls k t309 true _ A9.out).mono ?_); rintro e w12 ⟨rfl, hb⟩; refine ⟨_, rfl, ?_⟩; have n0_ := Aside0.mk (below_step (by repeat (first | (with_reducible first | exact HB.out | apply below_alloc | apply pw_below_drewN | apply below_drew1) | exact HB.out)) hb); clear HB; have HB := n0_; clear n0_; (try clear hb); (try clear hb2); (try clear hk); (try clear hi)) | (go_at_call 14; (with_reducible refine (graftwoodref03_May.calls k t310 t314 _ A11.out).mono ?_); rintro e w13 ⟨rfl, hb⟩; have n0_ := Aside0.mk (below_step (by repeat (first | (with_reducible first | exact HB.out | apply below_alloc | apply pw_below_drewN | apply below_drew1) | exact HB.out)) hb); clear HB; have HB := n0_; clear n0_; (try clear hb); (try clear hb2); (try clear hk); (try clear hi)))
   go_meet
   case rel => exact ⟨_, (!t314), (by first | rfl | (simp; done) | (simp [*]; done)), H', ⟨by first | omega | exact Nat.le_refl _⟩, ⟨by repeat (first | (with_reducible first | exact HB.out | apply below_alloc | apply pw_below_drewN | apply below_drew1) | exact HB.out)⟩⟩
  ·replace c10 := Bool.eq_false_iff.mpr c10
   subst c10
   have H1 : (graftwoodlaw03_VersionOrders.j0 k t309 t310 l2 t311 t312 true) = some r := by rw [if_neg (show ¬ (false = true) by decide)] at H; exact H
   clear H
   have H := H1
   clear H1
   have H' := Aside0.mk H
   clear H
   go_wp2_with (first | ((with_reducible refine gate_callee (f := 14) rfl ?_); refine goesL_ (some 26) rfl rfl Tryd.func14 (by kernel_rfl) rfl #[.string t309] rfl (by (try simp only [List.map_toArray, List.map_cons, List.map_nil]); first | done | rfl | (simp only [List.length_drop, List.length_take]; rfl)) ?_; (with_reducible refine (graftwoodref03_May.calls k t309 false _ A9.out).mono ?_); rintro e w14 ⟨rfl, hb⟩; refine ⟨_, rfl, ?_⟩; have n0_ := Aside0.mk (below_step (by repeat (first | (with_reducible first | exact HB.out | apply below_alloc | apply pw_below_drewN | apply below_drew1) | exact HB.out)) hb); clear HB; have HB := n0_; clear n0_; (try clear hb); (try clear hb2); (try clear hk); (try clear hi)))
   go_meet
   case rel => exact ⟨_, (true), (by first | rfl | (simp; done) | (simp [*]; done)), H', ⟨by first | omega | exact Nat.le_refl _⟩, ⟨by repeat (first | (with_reducible first | exact HB.out | apply below_alloc | apply pw_below_drewN | apply below_drew1) | exact HB.out)⟩⟩
 case rest =>
  clear HC7
  try clear c1
  try clear c2
  try clear p2
  try clear c4
  try clear c10
  try clear c11
  try clear c14
  obtain ⟨kq, x32_6, rfl, HA, HJ6, HB⟩ := hcut
  cases kq with
  | zero => exact absurd HA.out (by simp [graftwoodlaw03_VersionOrders.j0])
  | succ kj6 =>
   have H := HA.out
   clear HA
   simp only [graftwoodlaw03_VersionOrders.j0] at H
   have HC15 := Aside0.mk H
   clear H
   go_upto_if 32 with (fail)
   go_cut [] (fun wc => ∃ (kq : Nat), Aside0 (graftwoodlaw03_VersionOrders.j1 kq l2 = some r) ∧ Aside0 (kq ≤ kj6) ∧ Aside0 (Below w.heap.size w wc))
   case first =>
    have H := HC15.out
    clear HC15
    by_cases c16 : x32_6 = true
    ·subst c16
     have H1 : (if t311 = 0 then (if t312 = 1 then (graftwoodlaw03_VersionOrders.j1 kj6 l2) else (some false)) else (some false)) = some r := by rw [if_pos rfl] at H; exact H
     clear H
     have H := H1
     clear H1
     by_cases c17 : t311 = 0
     ·rw [if_pos c17] at H
      have c17b0 : (t311 == 0) = true := beq_iff_eq.mpr c17
      have c17b1 : (t311 != 0) = false := bne_eq_false_iff_eq.mpr c17
      clear c17
      (first | rw [c17b0] | (simp only [i64_w, i32_w]; rw [c17b0]) | skip)
      by_cases c18 : t312 = 1
      ·rw [if_pos c18] at H
       have c18b0 : (t312 == 1) = true := beq_iff_eq.mpr c18
       have c18b1 : (t312 != 1) = false := bne_eq_false_iff_eq.mpr c18
       clear c18
       have H' := Aside0.mk H
       clear H
       go_wp2
       go_meet
       case rel => exact ⟨_, H', ⟨by have := HJ6.out; first | omega | exact Nat.le_refl _⟩, ⟨by repeat (first | (with_reducible first | exact HB.out | apply below_alloc | apply pw_below_drewN | apply below_drew1) | exact HB.out)⟩⟩
      ·rw [if_neg c18] at H
       have c18b0 : (t312 == 1) = false := beq_eq_false_iff_ne.mpr c18
       have c18b1 : (t312 != 1) = true := bne_iff_ne.mpr c18
       obtain rfl := Option.some.inj H
       go_wp2
       go_ret
       exact ⟨by first | rfl | (simp [errW_none, errW_some] <;> rfl) | (simp [*, errW_none, errW_some] <;> rfl), by repeat (first | (with_reducible first | exact HB.out | apply below_alloc | apply pw_below_drewN | apply below_drew1) | exact HB.out)⟩
     ·rw [if_neg c17] at H
      have c17b0 : (t311 == 0) = false := beq_eq_false_iff_ne.mpr c17
      have c17b1 : (t311 != 0) = true := bne_iff_ne.mpr c17
      (first | rw [c17b0] | (simp only [i64_w, i32_w]; rw [c17b0]) | skip)
      obtain rfl := Option.some.inj H
      go_wp2
      go_ret
      exact ⟨by first | rfl | (simp [errW_none, errW_some] <;> rfl) | (simp [*, errW_none, errW_some] <;> rfl), by repeat (first | (with_reducible first | exact HB.out | apply below_alloc | apply pw_below_drewN | apply below_drew1) | exact HB.out)⟩
    ·replace c16 := Bool.eq_false_iff.mpr c16
     subst c16
     have H1 : ((graftwoodref03_Cmp.f kj6 t309 t310).bind fun t315 => (if t311 = t315 then (if t312 = 0 then (graftwoodlaw03_VersionOrders.j1 kj6 l2) else (some false)) else (some false))) = some r := by rw [if_neg (show ¬ (false = true) by decide)] at H; exact H
     clear H
     have H := H1
     clear H1
     replace H := Option.bind_eq_some_iff.mp H
     obtain ⟨t315, A190, H⟩ := H
     replace H : (if t311 = t315 then (if t312 = 0 then (graftwoodlaw03_VersionOrders.j1 kj6 l2) else (some false)) else (some false)) = some r := H
     have A19 := Aside0.mk A190
     clear A190
     by_cases c20 : t311 = t315
     ·rw [if_pos c20] at H
      have c20b0 : (t311 == t315) = true := beq_iff_eq.mpr c20
      have c20b1 : (t311 != t315) = false := bne_eq_false_iff_eq.mpr c20
      clear c20
      by_cases c21 : t312 = 0
      ·rw [if_pos c21] at H
       have c21b0 : (t312 == 0) = true := beq_iff_eq.mpr c21
       have c21b1 : (t312 != 0) = false := bne_eq_false_iff_eq.mpr c21
       clear c21
       have H' := Aside0.mk H
       clear H
       go_wp2_with (first | ((with_reducible refine gate_callee (f := 15) rfl ?_); refine goesL_ (some 42) rfl rfl Tryd.func15 (by kernel_rfl) rfl #[.string t309, .string t310] rfl (by (try simp only [List.map_toArray, List.map_cons, List.map_nil]); first | done | rfl | (simp only [List.length_drop, List.length_take]; rfl)) ?_; (with_reducible refine (graftwoodref03_Cmp.calls kj6 t309 t310 t315 _ A19.out).mono ?_); rintro e w22 ⟨rfl, hb⟩; refine ⟨_, rfl, ?_⟩; have n0_ := Aside0.mk (below_step (by repeat (first | (with_reducible first | exact HB.out | apply below_alloc | apply pw_below_drewN | apply below_drew1) | exact HB.out)) hb); clear HB; have HB := n0_; clear n0_; (try clear hb); (try clear hb2); (try clear hk); (try clear hi)))
       go_meet
       case rel => exact ⟨_, H', ⟨by have := HJ6.out; first | omega | exact Nat.le_refl _⟩, ⟨by repeat (first | (with_reducible first | exact HB.out | apply below_alloc | apply pw_below_drewN | apply below_drew1) | exact HB.out)⟩⟩
      ·rw [if_neg c21] at H
       have c21b0 : (t312 == 0) = false := beq_eq_false_iff_ne.mpr c21
       have c21b1 : (t312 != 0) = true := bne_iff_ne.mpr c21
       obtain rfl := Option.some.inj H
       go_wp2_with (first | ((with_reducible refine gate_callee (f := 15) rfl ?_); refine goesL_ (some 42) rfl rfl Tryd.func15 (by kernel_rfl) rfl #[.string t309, .string t310] rfl (by (try simp only [List.map_toArray, List.map_cons, List.map_nil]); first | done | rfl | (simp only [List.length_drop, List.length_take]; rfl)) ?_; (with_reducible refine (graftwoodref03_Cmp.calls kj6 t309 t310 t315 _ A19.out).mono ?_); rintro e w23 ⟨rfl, hb⟩; refine ⟨_, rfl, ?_⟩; have n0_ := Aside0.mk (below_step (by repeat (first | (with_reducible first | exact HB.out | apply below_alloc | apply pw_below_drewN | apply below_drew1) | exact HB.out)) hb); clear HB; have HB := n0_; clear n0_; (try clear hb); (try clear hb2); (try clear hk); (try clear hi)))
       go_ret
       exact ⟨by first | rfl | (simp [errW_none, errW_some] <;> rfl) | (simp [*, errW_none, errW_some] <;> rfl), by repeat (first | (with_reducible first | exact HB.out | apply below_alloc | apply pw_below_drewN | apply below_drew1) | exact HB.out)⟩
     ·rw [if_neg c20] at H
      have c20b0 : (t311 == t315) = false := beq_eq_false_iff_ne.mpr c20
      have c20b1 : (t311 != t315) = true := bne_iff_ne.mpr c20
      obtain rfl := Option.some.inj H
      go_wp2_with (first | ((with_reducible refine gate_callee (f := 15) rfl ?_); refine goesL_ (some 42) rfl rfl Tryd.func15 (by kernel_rfl) rfl #[.string t309, .string t310] rfl (by (try simp only [List.map_toArray, List.map_cons, List.map_nil]); first | done | rfl | (simp only [List.length_drop, List.length_take]; rfl)) ?_; (with_reducible refine (graftwoodref03_Cmp.calls kj6 t309 t310 t315 _ A19.out).mono ?_); rintro e w24 ⟨rfl, hb⟩; refine ⟨_, rfl, ?_⟩; have n0_ := Aside0.mk (below_step (by repeat (first | (with_reducible first | exact HB.out | apply below_alloc | apply pw_below_drewN | apply below_drew1) | exact HB.out)) hb); clear HB; have HB := n0_; clear n0_; (try clear hb); (try clear hb2); (try clear hk); (try clear hi)))
      go_ret
      exact ⟨by first | rfl | (simp [errW_none, errW_some] <;> rfl) | (simp [*, errW_none, errW_some] <;> rfl), by repeat (first | (with_reducible first | exact HB.out | apply below_alloc | apply pw_below_drewN | apply below_drew1) | exact HB.out)⟩
   case rest =>
    clear HC15
    try clear c1
    try clear c2
    try clear p2
    try clear c4
    try clear c10
    try clear c11
    try clear c14
    try clear c15
    try clear c16
    try clear c17
    try clear c17b0
    try clear c17b1
    try clear c18
    try clear c18b0
    try clear c18b1
    try clear c20
    try clear c20b0
    try clear c20b1
    try clear c21
    try clear c21b0
    try clear c21b1
    try clear p2
    obtain ⟨kq, HA, HJ14, HB⟩ := hcut
    cases kq with
    | zero => exact absurd HA.out (by simp [graftwoodlaw03_VersionOrders.j1])
    | succ kj14 =>
     have H := HA.out
     clear HA
     simp only [graftwoodlaw03_VersionOrders.j1] at H
     have HC25 := Aside0.mk H
     clear H
     go_upto_block 0 with (fail)
     go_cut [9] (fun v9 wc => ∃ (kq : Nat) (x9_24 : List ByteArray), Aside0 (graftwoodlaw03_VersionOrders.j3 kq x9_24 = some r) ∧ Aside0 (kq ≤ kj14) ∧ Aside0 (Kd.R Kd.string 9 wc w.heap.size (fun _ => True) v9 x9_24) ∧ Aside0 (Below w.heap.size w wc))
     case first =>
      have H := HC25.out
      clear HC25
      have H' := Aside0.mk H
      clear H
      go_wp2
      go_loopg [9, 10] kj14 (fun kq v9 v10 w' => ∃ (x9_3 : List ByteArray) (x10_3 : Int), v10 = .int .i64 x10_3 ∧ Aside0 (graftwoodlaw03_VersionOrders.l0 kq l2 x9_3 x10_3 = some r) ∧ Aside0 (kq ≤ kj14) ∧ Aside0 (Kd.R Kd.string 9 w' w.heap.size (fun _ => True) v9 x9_3) ∧ Aside0 (Below w.heap.size w w'))
      case atStart => exact ⟨(([] : List ByteArray)), (0), (by first | rfl | (simp; done) | (simp [*]; done)), H', ⟨Nat.le_refl _⟩, ⟨by first | exact Kd.R_nil _ _ _ _ _ | exact Kd.N_nil _ _ _ _ _ | exact Kd.V_nil _ _ _ _ _ | exact Kd.Q_nil _ _ _ _ _ | exact Kd.S_nil _ _ _ _ _⟩, ⟨by repeat (first | (with_reducible first | exact HB.out | apply below_alloc | apply pw_below_drewN | apply below_drew1) | exact HB.out)⟩⟩
      case round =>
       clear H'
       try clear c1
       try clear c2
       try clear p2
       try clear c4
       try clear c10
       try clear c11
       try clear c14
       try clear c15
       try clear c16
       try clear c17
       try clear c17b0
       try clear c17b1
       try clear c18
       try clear c18b0
       try clear c18b1
       try clear c20
       try clear c20b0
       try clear c20b1
       try clear c21
       try clear c21b0
       try clear c21b1
       try clear p2
       obtain ⟨x9_3, x10_3, rfl, HA, HK3, HO_9, HB⟩ := hrel
       cases gk with
       | zero => exact absurd HA.out (by simp [graftwoodlaw03_VersionOrders.l0])
       | succ k3 =>
        have H := HA.out
        clear HA
        simp only [graftwoodlaw03_VersionOrders.l0] at H
        by_cases c26 : x10_3 < (l2.length : Int)
        ·rw [if_pos c26] at H
         have c26b0 : decide (x10_3 < (l2.length : Int)) = true := decide_eq_true c26
         clear c26
         (first | rw [c26b0] | (simp only [i64_w, i32_w]; rw [c26b0]) | skip)
         by_cases c27 : x10_3 < 12
         ·rw [if_pos c27] at H
          have c27b0 : decide (x10_3 < 12) = true := decide_eq_true c27
          clear c27
          by_cases c28 : 0 ≤ x10_3
          ·rw [if_pos c28] at H
           have c28b0 : decide (0 ≤ x10_3) = true := decide_eq_true c28
           clear c28
           replace H := Option.bind_eq_some_iff.mp H
           obtain ⟨t317, A290, H⟩ := H
           replace H : (if x9_3.length < 8796093022208 then (graftwoodlaw03_VersionOrders.l0 k3 l2 (x9_3 ++ [t317]) (wrap64 (x10_3 + 1))) else (none)) = some r := H
           have A29 := Aside0.mk A290
           clear A290
           by_cases c30 : x9_3.length < 8796093022208
           ·rw [if_pos c30] at H
            have LMc30 := Aside0.mk c30
            clear c30
            obtain ⟨y318, hy318⟩ : ∃ y_ : List ByteArray, y_ = (x9_3 ++ [t317]) := ⟨_, rfl⟩
            replace H : (graftwoodlaw03_VersionOrders.l0 k3 l2 y318 (wrap64 (x10_3 + 1))) = some r := by first | (rw [hy318]; with_reducible exact H) | (have H2_ := (Option.bind_some _ _).symm.trans H; rw [hy318]; with_reducible exact H2_) | (have H2_ := (Option.bind_some _ _).symm.trans H; with_reducible exact H2_) | with_reducible exact H | (rw [hy318]; exact H) | exact H
            have Ny318 := Aside0.mk hy318
            clear hy318
            have H' := Aside0.mk H
            clear H
            have p316 : 0 ≤ (x10_3 : Int) := of_decide_eq_true (by first | (with_reducible assumption) | assumption)
            have q316 : x10_3 < (l2.length : Int) := of_decide_eq_true (by first | (with_reducible assumption) | assumption)
            obtain ⟨ad316, e316, hx316_0⟩ := Kd.at_string HR2.out x10_3 p316 q316
            cases e316
            replace hx316_0 := (HB.out.cell (World.block_lt_of_cell? w _ hx316_0)).trans hx316_0
            replace p316 := eq_true p316
            replace q316 := eq_true q316
            go_wp2_with (first | ((with_reducible refine gate_callee (f := 10) rfl ?_); refine goesL_ (some 63) rfl rfl Tryd.func10 (by kernel_rfl) rfl #[.string (rdOf ByteArray.empty l2 x10_3)] rfl (by (try simp only [List.map_toArray, List.map_cons, List.map_nil]); first | done | rfl | (simp only [List.length_drop, List.length_take]; rfl)) ?_; (with_reducible refine (graftwoodlaw01_Few.calls (rdOf ByteArray.empty l2 x10_3) t317 _ A29.out).mono ?_); rintro e w' ⟨rfl, ⟨nd, rfl⟩⟩; refine ⟨_, rfl, ?_⟩) | ((with_reducible refine gate_builtin (b := .append) (xs := #[.tmp 58, .tmp 64]) rfl ?_); at_builtin; refine Kd.R_append Kd.string (w0 := w) w.heap.size rfl (.tmp 58) (.tmp 64) 29 9 (.string ⟨#[]⟩) 16 rfl Tryd.underlying29 info9 rfl (by decide) (by omega) u9 x9_3 t317 [.string t317] (fun _ => True) (fun _ => False) rfl rfl ?aP (fun _ hk => hk.elim) ?aF ?aO ?aB ?aS ?aL ?_; (case aP => exact rfl); (case aB => exact (by repeat (first | (with_reducible first | exact HB.out | apply below_alloc | apply pw_below_drewN | apply below_drew1) | exact HB.out))); (case aF => exact (fun _ _ => trivial)); (case aO => exact (by (with_reducible repeat (first | apply Kd.R_alloc | apply Kd.R_drewN | apply Kd.R_drew)); exact HO_9.out)); (case aS => exact (below_size (by repeat (first | (with_reducible first | exact HB.out | apply below_alloc | apply pw_below_drewN | apply below_drew1) | exact HB.out)))); (case aL => have := LMc30.out; omega); intro v319 w31 ho hb hg hat; rw [← Ny318.out] at ho; have n0_ := Aside0.mk (hb); have n1_ := Aside0.mk (ho); clear HB; clear HO_9; have HB := n0_; have HO320 := n1_; clear n0_ n1_; clear ho hb hg hat))
            go_roundg k3
            case measure => have := HJ6.out; have := HJ14.out; have := HK3.out; omega
            case rel => exact ⟨(y318), (wrap64 (x10_3 + 1)), (by first | rfl | (simp; done) | (simp [*]; done)), H', ⟨by have := HJ6.out; have := HJ14.out; have := HK3.out; omega⟩, ⟨by (with_reducible repeat (first | apply Kd.R_alloc | apply Kd.R_drewN | apply Kd.R_drew)); exact HO320.out⟩, ⟨by repeat (first | (with_reducible first | exact HB.out | apply below_alloc | apply pw_below_drewN | apply below_drew1) | exact HB.out)⟩⟩
           ·rw [if_neg c30] at H
            exact absurd H (by simp)
          ·rw [if_neg c28] at H
           exact absurd H (by simp)
         ·rw [if_neg c27] at H
          have c27b0 : decide (x10_3 < 12) = false := decide_eq_false c27
          clear c27
          have H' := Aside0.mk H
          clear H
          go_wp2
          go_meet
          case rel => exact ⟨_, (x9_3), H', ⟨by have := HJ6.out; have := HJ14.out; have := HK3.out; first | omega | exact Nat.le_refl _⟩, ⟨by (with_reducible repeat (first | apply Kd.R_alloc | apply Kd.R_drewN | apply Kd.R_drew)); exact HO_9.out⟩, ⟨by repeat (first | (with_reducible first | exact HB.out | apply below_alloc | apply pw_below_drewN | apply below_drew1) | exact HB.out)⟩⟩
        ·rw [if_neg c26] at H
         have c26b0 : decide (x10_3 < (l2.length : Int)) = false := decide_eq_false c26
         clear c26
         (first | rw [c26b0] | (simp only [i64_w, i32_w]; rw [c26b0]) | skip)
         have H' := Aside0.mk H
         clear H
         go_wp2
         go_meet
         case rel => exact ⟨_, (x9_3), H', ⟨by have := HJ6.out; have := HJ14.out; have := HK3.out; first | omega | exact Nat.le_refl _⟩, ⟨by (with_reducible repeat (first | apply Kd.R_alloc | apply Kd.R_drewN | apply Kd.R_drew)); exact HO_9.out⟩, ⟨by repeat (first | (with_reducible first | exact HB.out | apply below_alloc | apply pw_below_drewN | apply below_drew1) | exact HB.out)⟩⟩
     case rest =>
      clear HC25
      try clear c1
      try clear c2
      try clear p2
      try clear c3
      try clear p3
      try clear q3
      try clear hx3
      try clear c4
      try clear p6
      try clear c10
      try clear c11
      try clear c14
      try clear c15
      try clear c16
      try clear c17
      try clear c17b0
      try clear c17b1
      try clear c18
      try clear c18b0
      try clear c18b1
      try clear c20
      try clear c20b0
      try clear c20b1
      try clear c21
      try clear c21b0
      try clear c21b1
      try clear c26
      try clear c26b0
      try clear c27
      try clear c27b0
      try clear c28
      try clear c28b0
      try clear c30
      try clear p31
      try clear q31
      try clear hx31
      try clear hx316_0
      try clear p2
      try clear p316
      try clear q316
      obtain ⟨kq, x9_24, HA, HJ24, HO_9, HB⟩ := hcut
      cases kq with
      | zero => exact absurd HA.out (by simp [graftwoodlaw03_VersionOrders.j3])
      | succ kj24 =>
       have H := HA.out
       clear HA
       simp only [graftwoodlaw03_VersionOrders.j3] at H
       replace H := Option.bind_eq_some_iff.mp H
       obtain ⟨⟨t321, t322⟩, A320, H⟩ := H
       replace H : (if (x9_24.length : Int) = 0 then (if t321.toList = ([] : List UInt8) then (if t322 = 2 then ((graftwoodlaw03_awake.f kj24).bind fun t323 => (some t323)) else (some false)) else (some false)) else (if 0 < (x9_24.length : Int) then (graftwoodlaw03_VersionOrders.l1 kj24 x9_24 t321 t322 (rdOf ByteArray.empty x9_24 0) 0) else (none))) = some r := H
       have A32 := Aside0.mk A320
       clear A320
       by_cases c33 : (x9_24.length : Int) = 0
       ·rw [if_pos c33] at H
        have c33b0 : ((x9_24.length : Int) == 0) = true := beq_iff_eq.mpr c33
        have c33b1 : ((x9_24.length : Int) != 0) = false := bne_eq_false_iff_eq.mpr c33
        clear c33
        by_cases c34 : t321.toList = ([] : List UInt8)
        ·rw [if_pos c34] at H
         have c34b0 : (t321.toList == ([] : List UInt8)) = true := beq_iff_eq.mpr c34
         have c34b1 : (t321.toList != ([] : List UInt8)) = false := bne_eq_false_iff_eq.mpr c34
         clear c34
         by_cases c35 : t322 = 2
         ·rw [if_pos c35] at H
          have c35b0 : (t322 == 2) = true := beq_iff_eq.mpr c35
          have c35b1 : (t322 != 2) = false := bne_eq_false_iff_eq.mpr c35
          clear c35
          replace H := Option.bind_eq_some_iff.mp H
          obtain ⟨t323, A360, H⟩ := H
          replace H : (some t323) = some r := H
          have A36 := Aside0.mk A360
          clear A360
          obtain rfl := Option.some.inj H
          obtain ⟨Ao37, co37, eo37⟩ := Kd.R_slice HO_9.out
          subst eo37
          go_wp2_with (first | ((with_reducible refine gate_callee (f := 16) rfl ?_); refine goesL_ (some 68) rfl rfl Tryd.func16 (by kernel_rfl) rfl #[.slice Ao37 x9_24.length co37] rfl (by (try simp only [List.map_toArray, List.map_cons, List.map_nil]); first | done | rfl | (simp only [List.length_drop, List.length_take]; rfl)) ?_; (with_reducible refine (version_Max.calls kj24 _ _ x9_24 t321 t322 _ ?side1 ?side2 A32.out).mono ?_); (case side1 => repeat (first | exact (Kd.R_reads' HO_9.out).2.2 | (with_reducible refine Kd.C_alloc ?_ _) | (with_reducible refine Kd.C_drewN ?_ _) | (with_reducible refine Kd.C_drew ?_))); (case side2 => exact (Kd.R_reads' HO_9.out).2.1); rintro e w38 ⟨rfl, hb⟩; refine ⟨_, rfl, ?_⟩; have n0_ := Aside0.mk (Kd.R_below (by (with_reducible repeat (first | apply Kd.R_alloc | apply Kd.R_drewN | apply Kd.R_drew)); exact HO_9.out) hb); have n1_ := Aside0.mk (below_step (by repeat (first | (with_reducible first | exact HB.out | apply below_alloc | apply pw_below_drewN | apply below_drew1) | exact HB.out)) hb); clear HO_9; clear HB; have HO_9 := n0_; have HB := n1_; clear n0_ n1_; (try clear hb); (try clear hb2); (try clear hk); (try clear hi)) | (go_at_call 13; (with_reducible refine (graftwoodlaw03_awake.calls kj24  t323 _ A36.out).mono ?_); rintro e w39 ⟨rfl, hb⟩; have n0_ := Aside0.mk (Kd.R_below (by (with_reducible repeat (first | apply Kd.R_alloc | apply Kd.R_drewN | apply Kd.R_drew)); exact HO_9.out) hb); have n1_ := Aside0.mk (below_step (by repeat (first | (with_reducible first | exact HB.out | apply below_alloc | apply pw_below_drewN | apply below_drew1) | exact HB.out)) hb); clear HO_9; clear HB; have HO_9 := n0_; have HB := n1_; clear n0_ n1_; (try clear hb); (try clear hb2); (try clear hk); (try clear hi)))
          go_ret
          exact ⟨by first | rfl | (simp [errW_none, errW_some] <;> rfl) | (simp [*, errW_none, errW_some] <;> rfl), by repeat (first | (with_reducible first | exact HB.out | apply below_alloc | apply pw_below_drewN | apply below_drew1) | exact HB.out)⟩
         ·rw [if_neg c35] at H
          have c35b0 : (t322 == 2) = false := beq_eq_false_iff_ne.mpr c35
          have c35b1 : (t322 != 2) = true := bne_iff_ne.mpr c35
          obtain rfl := Option.some.inj H
          obtain ⟨Ao40, co40, eo40⟩ := Kd.R_slice HO_9.out
          subst eo40
          go_wp2_with (first | ((with_reducible refine gate_callee (f := 16) rfl ?_); refine goesL_ (some 68) rfl rfl Tryd.func16 (by kernel_rfl) rfl #[.slice Ao40 x9_24.length co40] rfl (by (try simp only [List.map_toArray, List.map_cons, List.map_nil]); first | done | rfl | (simp only [List.length_drop, List.length_take]; rfl)) ?_; (with_reducible refine (version_Max.calls kj24 _ _ x9_24 t321 t322 _ ?side1 ?side2 A32.out).mono ?_); (case side1 => repeat (first | exact (Kd.R_reads' HO_9.out).2.2 | (with_reducible refine Kd.C_alloc ?_ _) | (with_reducible refine Kd.C_drewN ?_ _) | (with_reducible refine Kd.C_drew ?_))); (case side2 => exact (Kd.R_reads' HO_9.out).2.1); rintro e w41 ⟨rfl, hb⟩; refine ⟨_, rfl, ?_⟩; have n0_ := Aside0.mk (Kd.R_below (by (with_reducible repeat (first | apply Kd.R_alloc | apply Kd.R_drewN | apply Kd.R_drew)); exact HO_9.out) hb); have n1_ := Aside0.mk (below_step (by repeat (first | (with_reducible first | exact HB.out | apply below_alloc | apply pw_below_drewN | apply below_drew1) | exact HB.out)) hb); clear HO_9; clear HB; have HO_9 := n0_; have HB := n1_; clear n0_ n1_; (try clear hb); (try clear hb2); (try clear hk); (try clear hi)))
          go_ret
          exact ⟨by first | rfl | (simp [errW_none, errW_some] <;> rfl) | (simp [*, errW_none, errW_some] <;> rfl), by repeat (first | (with_reducible first | exact HB.out | apply below_alloc | apply pw_below_drewN | apply below_drew1) | exact HB.out)⟩
        ·rw [if_neg c34] at H
         have c34b0 : (t321.toList == ([] : List UInt8)) = false := beq_eq_false_iff_ne.mpr c34
         have c34b1 : (t321.toList != ([] : List UInt8)) = true := bne_iff_ne.mpr c34
         obtain rfl := Option.some.inj H
         obtain ⟨Ao42, co42, eo42⟩ := Kd.R_slice HO_9.out
         subst eo42
         go_wp2_with (first | ((with_reducible refine gate_callee (f := 16) rfl ?_); refine goesL_ (some 68) rfl rfl Tryd.func16 (by kernel_rfl) rfl #[.slice Ao42 x9_24.length co42] rfl (by (try simp only [List.map_toArray, List.map_cons, List.map_nil]); first | done | rfl | (simp only [List.length_drop, List.length_take]; rfl)) ?_; (with_reducible refine (version_Max.calls kj24 _ _ x9_24 t321 t322 _ ?side1 ?side2 A32.out).mono ?_); (case side1 => repeat (first | exact (Kd.R_reads' HO_9.out).2.2 | (with_reducible refine Kd.C_alloc ?_ _) | (with_reducible refine Kd.C_drewN ?_ _) | (with_reducible refine Kd.C_drew ?_))); (case side2 => exact (Kd.R_reads' HO_9.out).2.1); rintro e w43 ⟨rfl, hb⟩; refine ⟨_, rfl, ?_⟩; have n0_ := Aside0.mk (Kd.R_below (by (with_reducible repeat (first | apply Kd.R_alloc | apply Kd.R_drewN | apply Kd.R_drew)); exact HO_9.out) hb); have n1_ := Aside0.mk (below_step (by repeat (first | (with_reducible first | exact HB.out | apply below_alloc | apply pw_below_drewN | apply below_drew1) | exact HB.out)) hb); clear HO_9; clear HB; have HO_9 := n0_; have HB := n1_; clear n0_ n1_; (try clear hb); (try clear hb2); (try clear hk); (try clear hi)))
         go_ret
         exact ⟨by first | rfl | (simp [errW_none, errW_some] <;> rfl) | (simp [*, errW_none, errW_some] <;> rfl), by repeat (first | (with_reducible first | exact HB.out | apply below_alloc | apply pw_below_drewN | apply below_drew1) | exact HB.out)⟩
       ·rw [if_neg c33] at H
        have c33b0 : ((x9_24.length : Int) == 0) = false := beq_eq_false_iff_ne.mpr c33
        have c33b1 : ((x9_24.length : Int) != 0) = true := bne_iff_ne.mpr c33
        have c33b2 : ¬ (x9_24 = []) := fun h_ => c33 (by rw [h_]; rfl)
        by_cases c44 : 0 < (x9_24.length : Int)
        ·rw [if_pos c44] at H
         have c44b0 : decide (0 < (x9_24.length : Int)) = true := decide_eq_true c44
         have c44b1 : decide (0 < x9_24.length) = true := decide_eq_true (by omega)
         clear c44
         have H' := Aside0.mk H
         clear H
         obtain ⟨Ao45, co45, eo45⟩ := Kd.R_slice HO_9.out
         subst eo45
         go_wp2_with (first | ((with_reducible refine gate_callee (f := 16) rfl ?_); refine goesL_ (some 68) rfl rfl Tryd.func16 (by kernel_rfl) rfl #[.slice Ao45 x9_24.length co45] rfl (by (try simp only [List.map_toArray, List.map_cons, List.map_nil]); first | done | rfl | (simp only [List.length_drop, List.length_take]; rfl)) ?_; (with_reducible refine (version_Max.calls kj24 _ _ x9_24 t321 t322 _ ?side1 ?side2 A32.out).mono ?_); (case side1 => repeat (first | exact (Kd.R_reads' HO_9.out).2.2 | (with_reducible refine Kd.C_alloc ?_ _) | (with_reducible refine Kd.C_drewN ?_ _) | (with_reducible refine Kd.C_drew ?_))); (case side2 => exact (Kd.R_reads' HO_9.out).2.1); rintro e w46 ⟨rfl, hb⟩; refine ⟨_, rfl, ?_⟩; have n0_ := Aside0.mk (Kd.R_below (by (with_reducible repeat (first | apply Kd.R_alloc | apply Kd.R_drewN | apply Kd.R_drew)); exact HO_9.out) hb); have n1_ := Aside0.mk (below_step (by repeat (first | (with_reducible first | exact HB.out | apply below_alloc | apply pw_below_drewN | apply below_drew1) | exact HB.out)) hb); clear HO_9; clear HB; have HO_9 := n0_; have HB := n1_; clear n0_ n1_; (try clear hb); (try clear hb2); (try clear hk); (try clear hi); have p324 : 0 ≤ (0 : Int) := (by omega); have q324 : 0 < (x9_24.length : Int) := of_decide_eq_true (by first | (with_reducible assumption) | assumption); obtain ⟨ad324, e324, hx324_0⟩ := Kd.at_string (Kd.R_reads' HO_9.out).2.2 0 p324 q324; cases e324; have qi324 : (0 < x9_24.length) = True := eq_true (by omega); (try rw [show ((0 : Int)).toNat = 0 from rfl] at hx324_0); (try rw [Addr.add_zero'] at hx324_0); replace p324 := eq_true p324; replace q324 := eq_true q324))
         go_loopg [13, 14] kj24 (fun kq v13 v14 w' => ∃ (x13_4 : ByteArray) (x14_4 : Int), v13 = .string x13_4 ∧ v14 = .int .i64 x14_4 ∧ Aside0 (graftwoodlaw03_VersionOrders.l1 kq x9_24 t321 t322 x13_4 x14_4 = some r) ∧ Aside0 (kq ≤ kj24) ∧ Aside0 (Kd.R Kd.string 9 w' w.heap.size (fun _ => True) (.slice (some ad324) x9_24.length co45) x9_24) ∧ Aside0 (Below w.heap.size w w'))
         case atStart => exact ⟨(rdOf ByteArray.empty x9_24 0), (0), (by first | rfl | (simp; done) | (simp [*]; done)), (by first | rfl | (simp; done) | (simp [*]; done)), H', ⟨Nat.le_refl _⟩, ⟨by (with_reducible repeat (first | apply Kd.R_alloc | apply Kd.R_drewN | apply Kd.R_drew)); exact HO_9.out⟩, ⟨by repeat (first | (with_reducible first | exact HB.out | apply below_alloc | apply pw_below_drewN | apply below_drew1) | exact HB.out)⟩⟩
         case round =>
          clear H'
          try clear c1
          try clear c2
          try clear p2
          try clear c3
          try clear p3
          try clear q3
          try clear hx3
          try clear qi3
          try clear c4
          try clear p6
          try clear c10
          try clear c11
          try clear c14
          try clear c15
          try clear c16
          try clear c17
          try clear c17b0
          try clear c17b1
          try clear c18
          try clear c18b0
          try clear c18b1
          try clear c20
          try clear c20b0
          try clear c20b1
          try clear c21
          try clear c21b0
          try clear c21b1
          try clear c26
          try clear c26b0
          try clear c27
          try clear c27b0
          try clear c28
          try clear c28b0
          try clear c30
          try clear p31
          try clear q31
          try clear hx31
          try clear p32
          try clear q32
          try clear hx32
          try clear qi32
          try clear c33
          try clear c33b0
          try clear c33b1
          try clear c33b2
          try clear c34
          try clear c34b0
          try clear c34b1
          try clear c35
          try clear c35b0
          try clear c35b1
          try clear c44
          try clear c44b0
          try clear c44b1
          try clear hx316_0
          try clear hx324_0
          try clear p2
          try clear p3
          try clear p31
          try clear p316
          try clear p324
          try clear p6
          try clear q3
          try clear q31
          try clear q316
          try clear q324
          obtain ⟨x13_4, x14_4, rfl, rfl, HA, HK4, HO_9, HB⟩ := hrel
          cases gk with
          | zero => exact absurd HA.out (by simp [graftwoodlaw03_VersionOrders.l1])
          | succ k4 =>
           have H := HA.out
           clear HA
           simp only [graftwoodlaw03_VersionOrders.l1] at H
           by_cases c47 : x14_4 < (x9_24.length : Int)
           ·rw [if_pos c47] at H
            have c47b0 : decide (x14_4 < (x9_24.length : Int)) = true := decide_eq_true c47
            clear c47
            by_cases c48 : 0 ≤ x14_4
            ·rw [if_pos c48] at H
             have c48b0 : decide (0 ≤ x14_4) = true := decide_eq_true c48
             clear c48
             replace H := Option.bind_eq_some_iff.mp H
             obtain ⟨t327, A490, H⟩ := H
             replace H : (if t327 = true then ((graftwoodref03_Cmp.f k4 (rdOf ByteArray.empty x9_24 x14_4) x13_4).bind fun t329 => (if t329 > 0 then (graftwoodlaw03_VersionOrders.l1 k4 x9_24 t321 t322 (rdOf ByteArray.empty x9_24 x14_4) (wrap64 (x14_4 + 1))) else (graftwoodlaw03_VersionOrders.l1 k4 x9_24 t321 t322 x13_4 (wrap64 (x14_4 + 1))))) else (if t321.toList = ([] : List UInt8) then (if t322 = 1 then ((graftwoodlaw03_awake.f k4).bind fun t331 => (some t331)) else (some false)) else (some false))) = some r := H
             have A49 := Aside0.mk A490
             clear A490
             by_cases c50 : t327 = true
             ·subst c50
              have H1 : ((graftwoodref03_Cmp.f k4 (rdOf ByteArray.empty x9_24 x14_4) x13_4).bind fun t329 => (if t329 > 0 then (graftwoodlaw03_VersionOrders.l1 k4 x9_24 t321 t322 (rdOf ByteArray.empty x9_24 x14_4) (wrap64 (x14_4 + 1))) else (graftwoodlaw03_VersionOrders.l1 k4 x9_24 t321 t322 x13_4 (wrap64 (x14_4 + 1))))) = some r := by rw [if_pos rfl] at H; exact H
              clear H
              have H := H1
              clear H1
              replace H := Option.bind_eq_some_iff.mp H
              obtain ⟨t329, A510, H⟩ := H
              replace H : (if t329 > 0 then (graftwoodlaw03_VersionOrders.l1 k4 x9_24 t321 t322 (rdOf ByteArray.empty x9_24 x14_4) (wrap64 (x14_4 + 1))) else (graftwoodlaw03_VersionOrders.l1 k4 x9_24 t321 t322 x13_4 (wrap64 (x14_4 + 1)))) = some r := H
              have A51 := Aside0.mk A510
              clear A510
              by_cases c52 : t329 > 0
              ·rw [if_pos c52] at H
               have c52b0 : decide (0 < t329) = true := decide_eq_true c52
               clear c52
               have H' := Aside0.mk H
               clear H
               have p326 : 0 ≤ (x14_4 : Int) := of_decide_eq_true (by first | (with_reducible assumption) | assumption)
               have q326 : x14_4 < (x9_24.length : Int) := of_decide_eq_true (by first | (with_reducible assumption) | assumption)
               obtain ⟨ad326, e326, hx326_0⟩ := Kd.at_string (Kd.R_reads' HO_9.out).2.2 x14_4 p326 q326
               obtain rfl : ad324 = ad326 := (by injection e326)
               replace p326 := eq_true p326
               replace q326 := eq_true q326
               go_wp2_with (first | ((with_reducible refine gate_callee (f := 14) rfl ?_); refine goesL_ (some 96) rfl rfl Tryd.func14 (by kernel_rfl) rfl #[.string (rdOf ByteArray.empty x9_24 x14_4)] rfl (by (try simp only [List.map_toArray, List.map_cons, List.map_nil]); first | done | rfl | (simp only [List.length_drop, List.length_take]; rfl)) ?_; (with_reducible refine (graftwoodref03_May.calls k4 (rdOf ByteArray.empty x9_24 x14_4) true _ A49.out).mono ?_); rintro e w53 ⟨rfl, hb⟩; refine ⟨_, rfl, ?_⟩; have n0_ := Aside0.mk (Kd.R_below (by (with_reducible repeat (first | apply Kd.R_alloc | apply Kd.R_drewN | apply Kd.R_drew)); exact HO_9.out) hb); have n1_ := Aside0.mk (below_step (by repeat (first | (with_reducible first | exact HB.out | apply below_alloc | apply pw_below_drewN | apply below_drew1) | exact HB.out)) hb); clear HO_9; clear HB; have HO_9 := n0_; have HB := n1_; clear n0_ n1_; (try clear hb); (try clear hb2); (try clear hk); (try clear hi); have p328 : 0 ≤ (x14_4 : Int) := of_decide_eq_true (by first | (with_reducible assumption) | assumption); have q328 : x14_4 < (x9_24.length : Int) := of_decide_eq_true (by first | (with_reducible assumption) | assumption); obtain ⟨ad328, e328, hx328_0⟩ := Kd.at_string (Kd.R_reads' HO_9.out).2.2 x14_4 p328 q328; obtain rfl : ad324 = ad328 := (by injection e328); replace p328 := eq_true p328; replace q328 := eq_true q328) | ((with_reducible refine gate_callee (f := 15) rfl ?_); refine goesL_ (some 112) rfl rfl Tryd.func15 (by kernel_rfl) rfl #[.string (rdOf ByteArray.empty x9_24 x14_4), .string x13_4] rfl (by (try simp only [List.map_toArray, List.map_cons, List.map_nil]); first | done | rfl | (simp only [List.length_drop, List.length_take]; rfl)) ?_; (with_reducible refine (graftwoodref03_Cmp.calls k4 (rdOf ByteArray.empty x9_24 x14_4) x13_4 t329 _ A51.out).mono ?_); rintro e w54 ⟨rfl, hb⟩; refine ⟨_, rfl, ?_⟩; have n0_ := Aside0.mk (Kd.R_below (by (with_reducible repeat (first | apply Kd.R_alloc | apply Kd.R_drewN | apply Kd.R_drew)); exact HO_9.out) hb); have n1_ := Aside0.mk (below_step (by repeat (first | (with_reducible first | exact HB.out | apply below_alloc | apply pw_below_drewN | apply below_drew1) | exact HB.out)) hb); clear HO_9; clear HB; have HO_9 := n0_; have HB := n1_; clear n0_ n1_; (try clear hb); (try clear hb2); (try clear hk); (try clear hi); have p330 : 0 ≤ (x14_4 : Int) := of_decide_eq_true (by first | (with_reducible assumption) | assumption); have q330 : x14_4 < (x9_24.length : Int) := of_decide_eq_true (by first | (with_reducible assumption) | assumption); obtain ⟨ad330, e330, hx330_0⟩ := Kd.at_string (Kd.R_reads' HO_9.out).2.2 x14_4 p330 q330; obtain rfl : ad324 = ad330 := (by injection e330); replace p330 := eq_true p330; replace q330 := eq_true q330))
               go_roundg k4
               case measure => have := HJ6.out; have := HJ14.out; have := HJ24.out; have := HK4.out; omega
               case rel => exact ⟨(rdOf ByteArray.empty x9_24 x14_4), (wrap64 (x14_4 + 1)), (by first | rfl | (simp; done) | (simp [*]; done)), (by first | rfl | (simp; done) | (simp [*]; done)), H', ⟨by have := HJ6.out; have := HJ14.out; have := HJ24.out; have := HK4.out; omega⟩, ⟨by (with_reducible repeat (first | apply Kd.R_alloc | apply Kd.R_drewN | apply Kd.R_drew)); exact HO_9.out⟩, ⟨by repeat (first | (with_reducible first | exact HB.out | apply below_alloc | apply pw_below_drewN | apply below_drew1) | exact HB.out)⟩⟩
              ·rw [if_neg c52] at H
               have c52b0 : decide (0 < t329) = false := decide_eq_false c52
               clear c52
               have H' := Aside0.mk H
               clear H
               have p326 : 0 ≤ (x14_4 : Int) := of_decide_eq_true (by first | (with_reducible assumption) | assumption)
               have q326 : x14_4 < (x9_24.length : Int) := of_decide_eq_true (by first | (with_reducible assumption) | assumption)
               obtain ⟨ad326, e326, hx326_0⟩ := Kd.at_string (Kd.R_reads' HO_9.out).2.2 x14_4 p326 q326
               obtain rfl : ad324 = ad326 := (by injection e326)
               replace p326 := eq_true p326
               replace q326 := eq_true q326
               go_wp2_with (first | ((with_reducible refine gate_callee (f := 14) rfl ?_); refine goesL_ (some 96) rfl rfl Tryd.func14 (by kernel_rfl) rfl #[.string (rdOf ByteArray.empty x9_24 x14_4)] rfl (by (try simp only [List.map_toArray, List.map_cons, List.map_nil]); first | done | rfl | (simp only [List.length_drop, List.length_take]; rfl)) ?_; (with_reducible refine (graftwoodref03_May.calls k4 (rdOf ByteArray.empty x9_24 x14_4) true _ A49.out).mono ?_); rintro e w55 ⟨rfl, hb⟩; refine ⟨_, rfl, ?_⟩; have n0_ := Aside0.mk (Kd.R_below (by (with_reducible repeat (first | apply Kd.R_alloc | apply Kd.R_drewN | apply Kd.R_drew)); exact HO_9.out) hb); have n1_ := Aside0.mk (below_step (by repeat (first | (with_reducible first | exact HB.out | apply below_alloc | apply pw_below_drewN | apply below_drew1) | exact HB.out)) hb); clear HO_9; clear HB; have HO_9 := n0_; have HB := n1_; clear n0_ n1_; (try clear hb); (try clear hb2); (try clear hk); (try clear hi); have p328 : 0 ≤ (x14_4 : Int) := of_decide_eq_true (by first | (with_reducible assumption) | assumption); have q328 : x14_4 < (x9_24.length : Int) := of_decide_eq_true (by first | (with_reducible assumption) | assumption); obtain ⟨ad328, e328, hx328_0⟩ := Kd.at_string (Kd.R_reads' HO_9.out).2.2 x14_4 p328 q328; obtain rfl : ad324 = ad328 := (by injection e328); replace p328 := eq_true p328; replace q328 := eq_true q328) | ((with_reducible refine gate_callee (f := 15) rfl ?_); refine goesL_ (some 112) rfl rfl Tryd.func15 (by kernel_rfl) rfl #[.string (rdOf ByteArray.empty x9_24 x14_4), .string x13_4] rfl (by (try simp only [List.map_toArray, List.map_cons, List.map_nil]); first | done | rfl | (simp only [List.length_drop, List.length_take]; rfl)) ?_; (with_reducible refine (graftwoodref03_Cmp.calls k4 (rdOf ByteArray.empty x9_24 x14_4) x13_4 t329 _ A51.out).mono ?_); rintro e w56 ⟨rfl, hb⟩; refine ⟨_, rfl, ?_⟩; have n0_ := Aside0.mk (Kd.R_below (by (with_reducible repeat (first | apply Kd.R_alloc | apply Kd.R_drewN | apply Kd.R_drew)); exact HO_9.out) hb); have n1_ := Aside0.mk (below_step (by repeat (first | (with_reducible first | exact HB.out | apply below_alloc | apply pw_below_drewN | apply below_drew1) | exact HB.out)) hb); clear HO_9; clear HB; have HO_9 := n0_; have HB := n1_; clear n0_ n1_; (try clear hb); (try clear hb2); (try clear hk); (try clear hi)))
               go_roundg k4
               case measure => have := HJ6.out; have := HJ14.out; have := HJ24.out; have := HK4.out; omega
               case rel => exact ⟨(x13_4), (wrap64 (x14_4 + 1)), (by first | rfl | (simp; done) | (simp [*]; done)), (by first | rfl | (simp; done) | (simp [*]; done)), H', ⟨by have := HJ6.out; have := HJ14.out; have := HJ24.out; have := HK4.out; omega⟩, ⟨by (with_reducible repeat (first | apply Kd.R_alloc | apply Kd.R_drewN | apply Kd.R_drew)); exact HO_9.out⟩, ⟨by repeat (first | (with_reducible first | exact HB.out | apply below_alloc | apply pw_below_drewN | apply below_drew1) | exact HB.out)⟩⟩
             ·replace c50 := Bool.eq_false_iff.mpr c50
              subst c50
              have H1 : (if t321.toList = ([] : List UInt8) then (if t322 = 1 then ((graftwoodlaw03_awake.f k4).bind fun t331 => (some t331)) else (some false)) else (some false)) = some r := by rw [if_neg (show ¬ (false = true) by decide)] at H; exact H
              clear H
              have H := H1
              clear H1
              by_cases c57 : t321.toList = ([] : List UInt8)
              ·rw [if_pos c57] at H
               have c57b0 : (t321.toList == ([] : List UInt8)) = true := beq_iff_eq.mpr c57
               have c57b1 : (t321.toList != ([] : List UInt8)) = false := bne_eq_false_iff_eq.mpr c57
               clear c57
               by_cases c58 : t322 = 1
               ·rw [if_pos c58] at H
                have c58b0 : (t322 == 1) = true := beq_iff_eq.mpr c58
                have c58b1 : (t322 != 1) = false := bne_eq_false_iff_eq.mpr c58
                clear c58
                replace H := Option.bind_eq_some_iff.mp H
                obtain ⟨t331, A590, H⟩ := H
                replace H : (some t331) = some r := H
                have A59 := Aside0.mk A590
                clear A590
                obtain rfl := Option.some.inj H
                have p326 : 0 ≤ (x14_4 : Int) := of_decide_eq_true (by first | (with_reducible assumption) | assumption)
                have q326 : x14_4 < (x9_24.length : Int) := of_decide_eq_true (by first | (with_reducible assumption) | assumption)
                obtain ⟨ad326, e326, hx326_0⟩ := Kd.at_string (Kd.R_reads' HO_9.out).2.2 x14_4 p326 q326
                obtain rfl : ad324 = ad326 := (by injection e326)
                replace p326 := eq_true p326
                replace q326 := eq_true q326
                go_wp2_with (first | ((with_reducible refine gate_callee (f := 14) rfl ?_); refine goesL_ (some 96) rfl rfl Tryd.func14 (by kernel_rfl) rfl #[.string (rdOf ByteArray.empty x9_24 x14_4)] rfl (by (try simp only [List.map_toArray, List.map_cons, List.map_nil]); first | done | rfl | (simp only [List.length_drop, List.length_take]; rfl)) ?_; (with_reducible refine (graftwoodref03_May.calls k4 (rdOf ByteArray.empty x9_24 x14_4) false _ A49.out).mono ?_); rintro e w60 ⟨rfl, hb⟩; refine ⟨_, rfl, ?_⟩; have n0_ := Aside0.mk (Kd.R_below (by (with_reducible repeat (first | apply Kd.R_alloc | apply Kd.R_drewN | apply Kd.R_drew)); exact HO_9.out) hb); have n1_ := Aside0.mk (below_step (by repeat (first | (with_reducible first | exact HB.out | apply below_alloc | apply pw_below_drewN | apply below_drew1) | exact HB.out)) hb); clear HO_9; clear HB; have HO_9 := n0_; have HB := n1_; clear n0_ n1_; (try clear hb); (try clear hb2); (try clear hk); (try clear hi)) | (go_at_call 13; (with_reducible refine (graftwoodlaw03_awake.calls k4  t331 _ A59.out).mono ?_); rintro e w61 ⟨rfl, hb⟩; have n0_ := Aside0.mk (Kd.R_below (by (with_reducible repeat (first | apply Kd.R_alloc | apply Kd.R_drewN | apply Kd.R_drew)); exact HO_9.out) hb); have n1_ := Aside0.mk (below_step (by repeat (first | (with_reducible first | exact HB.out | apply below_alloc | apply pw_below_drewN | apply below_drew1) | exact HB.out)) hb); clear HO_9; clear HB; have HO_9 := n0_; have HB := n1_; clear n0_ n1_; (try clear hb); (try clear hb2); (try clear hk); (try clear hi)))
                go_ret
                exact ⟨by first | rfl | (simp [errW_none, errW_some] <;> rfl) | (simp [*, errW_none, errW_some] <;> rfl), by repeat (first | (with_reducible first | exact HB.out | apply below_alloc | apply pw_below_drewN | apply below_drew1) | exact HB.out)⟩
               ·rw [if_neg c58] at H
                have c58b0 : (t322 == 1) = false := beq_eq_false_iff_ne.mpr c58
                have c58b1 : (t322 != 1) = true := bne_iff_ne.mpr c58
                obtain rfl := Option.some.inj H
                have p326 : 0 ≤ (x14_4 : Int) := of_decide_eq_true (by first | (with_reducible assumption) | assumption)
                have q326 : x14_4 < (x9_24.length : Int) := of_decide_eq_true (by first | (with_reducible assumption) | assumption)
                obtain ⟨ad326, e326, hx326_0⟩ := Kd.at_string (Kd.R_reads' HO_9.out).2.2 x14_4 p326 q326
                obtain rfl : ad324 = ad326 := (by injection e326)
                replace p326 := eq_true p326
                replace q326 := eq_true q326
                go_wp2_with (first | ((with_reducible refine gate_callee (f := 14) rfl ?_); refine goesL_ (some 96) rfl rfl Tryd.func14 (by kernel_rfl) rfl #[.string (rdOf ByteArray.empty x9_24 x14_4)] rfl (by (try simp only [List.map_toArray, List.map_cons, List.map_nil]); first | done | rfl | (simp only [List.length_drop, List.length_take]; rfl)) ?_; (with_reducible refine (graftwoodref03_May.calls k4 (rdOf ByteArray.empty x9_24 x14_4) false _ A49.out).mono ?_); rintro e w62 ⟨rfl, hb⟩; refine ⟨_, rfl, ?_⟩; have n0_ := Aside0.mk (Kd.R_below (by (with_reducible repeat (first | apply Kd.R_alloc | apply Kd.R_drewN | apply Kd.R_drew)); exact HO_9.out) hb); have n1_ := Aside0.mk (below_step (by repeat (first | (with_reducible first | exact HB.out | apply below_alloc | apply pw_below_drewN | apply below_drew1) | exact HB.out)) hb); clear HO_9; clear HB; have HO_9 := n0_; have HB := n1_; clear n0_ n1_; (try clear hb); (try clear hb2); (try clear hk); (try clear hi)))
                go_ret
                exact ⟨by first | rfl | (simp [errW_none, errW_some] <;> rfl) | (simp [*, errW_none, errW_some] <;> rfl), by repeat (first | (with_reducible first | exact HB.out | apply below_alloc | apply pw_below_drewN | apply below_drew1) | exact HB.out)⟩
              ·rw [if_neg c57] at H
               have c57b0 : (t321.toList == ([] : List UInt8)) = false := beq_eq_false_iff_ne.mpr c57
               have c57b1 : (t321.toList != ([] : List UInt8)) = true := bne_iff_ne.mpr c57
               obtain rfl := Option.some.inj H
               have p326 : 0 ≤ (x14_4 : Int) := of_decide_eq_true (by first | (with_reducible assumption) | assumption)
               have q326 : x14_4 < (x9_24.length : Int) := of_decide_eq_true (by first | (with_reducible assumption) | assumption)
               obtain ⟨ad326, e326, hx326_0⟩ := Kd.at_string (Kd.R_reads' HO_9.out).2.2 x14_4 p326 q326
               obtain rfl : ad324 = ad326 := (by injection e326)
               replace p326 := eq_true p326
               replace q326 := eq_true q326
               go_wp2_with (first | ((with_reducible refine gate_callee (f := 14) rfl ?_); refine goesL_ (some 96) rfl rfl Tryd.func14 (by kernel_rfl) rfl #[.string (rdOf ByteArray.empty x9_24 x14_4)] rfl (by (try simp only [List.map_toArray, List.map_cons, List.map_nil]); first | done | rfl | (simp only [List.length_drop, List.length_take]; rfl)) ?_; (with_reducible refine (graftwoodref03_May.calls k4 (rdOf ByteArray.empty x9_24 x14_4) false _ A49.out).mono ?_); rintro e w63 ⟨rfl, hb⟩; refine ⟨_, rfl, ?_⟩; have n0_ := Aside0.mk (Kd.R_below (by (with_reducible repeat (first | apply Kd.R_alloc | apply Kd.R_drewN | apply Kd.R_drew)); exact HO_9.out) hb); have n1_ := Aside0.mk (below_step (by repeat (first | (with_reducible first | exact HB.out | apply below_alloc | apply pw_below_drewN | apply below_drew1) | exact HB.out)) hb); clear HO_9; clear HB; have HO_9 := n0_; have HB := n1_; clear n0_ n1_; (try clear hb); (try clear hb2); (try clear hk); (try clear hi)))
               go_ret
               exact ⟨by first | rfl | (simp [errW_none, errW_some] <;> rfl) | (simp [*, errW_none, errW_some] <;> rfl), by repeat (first | (with_reducible first | exact HB.out | apply below_alloc | apply pw_below_drewN | apply below_drew1) | exact HB.out)⟩
            ·rw [if_neg c48] at H
             exact absurd H (by simp)
           ·rw [if_neg c47] at H
            have c47b0 : decide (x14_4 < (x9_24.length : Int)) = false := decide_eq_false c47
            clear c47
            by_cases c64 : t321.toList = x13_4.toList
            ·rw [if_pos c64] at H
             have c64b0 : (t321.toList == x13_4.toList) = true := beq_iff_eq.mpr c64
             have c64b1 : (t321.toList != x13_4.toList) = false := bne_eq_false_iff_eq.mpr c64
             clear c64
             by_cases c65 : t322 = 0
             ·rw [if_pos c65] at H
              have c65b0 : (t322 == 0) = true := beq_iff_eq.mpr c65
              have c65b1 : (t322 != 0) = false := bne_eq_false_iff_eq.mpr c65
              clear c65
              replace H := Option.bind_eq_some_iff.mp H
              obtain ⟨t325, A660, H⟩ := H
              replace H : (some t325) = some r := H
              have A66 := Aside0.mk A660
              clear A660
              obtain rfl := Option.some.inj H
              go_wp2_with (first | (go_at_call 13; (with_reducible refine (graftwoodlaw03_awake.calls k4  t325 _ A66.out).mono ?_); rintro e w67 ⟨rfl, hb⟩; have n0_ := Aside0.mk (Kd.R_below (by (with_reducible repeat (first | apply Kd.R_alloc | apply Kd.R_drewN | apply Kd.R_drew)); exact HO_9.out) hb); have n1_ := Aside0.mk (below_step (by repeat (first | (with_reducible first | exact HB.out | apply below_alloc | apply pw_below_drewN | apply below_drew1) | exact HB.out)) hb); clear HO_9; clear HB; have HO_9 := n0_; have HB := n1_; clear n0_ n1_; (try clear hb); (try clear hb2); (try clear hk); (try clear hi)))
              go_ret
              exact ⟨by first | rfl | (simp [errW_none, errW_some] <;> rfl) | (simp [*, errW_none, errW_some] <;> rfl), by repeat (first | (with_reducible first | exact HB.out | apply below_alloc | apply pw_below_drewN | apply below_drew1) | exact HB.out)⟩
             ·rw [if_neg c65] at H
              have c65b0 : (t322 == 0) = false := beq_eq_false_iff_ne.mpr c65
              have c65b1 : (t322 != 0) = true := bne_iff_ne.mpr c65
              obtain rfl := Option.some.inj H
              go_wp2
              go_ret
              exact ⟨by first | rfl | (simp [errW_none, errW_some] <;> rfl) | (simp [*, errW_none, errW_some] <;> rfl), by repeat (first | (with_reducible first | exact HB.out | apply below_alloc | apply pw_below_drewN | apply below_drew1) | exact HB.out)⟩
            ·rw [if_neg c64] at H
             have c64b0 : (t321.toList == x13_4.toList) = false := beq_eq_false_iff_ne.mpr c64
             have c64b1 : (t321.toList != x13_4.toList) = true := bne_iff_ne.mpr c64
             obtain rfl := Option.some.inj H
             go_wp2
             go_ret
             exact ⟨by first | rfl | (simp [errW_none, errW_some] <;> rfl) | (simp [*, errW_none, errW_some] <;> rfl), by repeat (first | (with_reducible first | exact HB.out | apply below_alloc | apply pw_below_drewN | apply below_drew1) | exact HB.out)⟩
        ·rw [if_neg c44] at H
         exact absurd H (by simp)

end Go.Proofs.YtjadpeahoaogcaaDoor.P
