-- Written by this project's own program (wip/tools/hp.py), driving the kit's print; hand texts among it. Not trusted: Lean checks it.
import Derived.Test.YtfhdbhocichpiaaDoorP0
import Derived.Test.YtfhdbhocichpiaaDoorP1
import Derived.Test.YtfhdbhocichpiaaDoorP5
namespace Go.Proofs.YtfhdbhocichpiaaDoor.P
open Go.RowKit Go.Proofs.YtfhdbhocichpiaaDoorW.PrintWords Go.Proofs.YtfhdbhocichpiaaDoorW.PrintLast Go.Proofs.YtfhdbhocichpiaaDoorW.PrintMore
attribute [local go_sem] max2_int min2_int max_two min_two max_three min_three max_four min_four   -- for this text's walks alone
set_option linter.unusedVariables false
set_option linter.unusedSimpArgs false

/-! ### graftwoodlaw01_OctetOrder: function 6 -/
def graftwoodlaw01_OctetOrder.j0 : Nat → ByteArray → ByteArray → ByteArray → Int → Bool → Option (Bool)
  | 0, _, _, _, _, _ => none
  | k + 1, x0, x1, x2, x7, x62 => if x62 = true then (some false) else (if x2.size + x0.size ≤ 9223372036854775807 then (if x2.size + x1.size ≤ 9223372036854775807 then ((octet_Cmp.f (x2 ++ x0) (x2 ++ x1)).bind fun t176 => (if t176 = x7 then (if x1.toList = ([] : List UInt8) then ((octet_Common.f k (x2 ++ x0) (x2 ++ x1)).bind fun t177 => ((octet_Common.f k x0 x1).bind fun t178 => (if t177 = (wrap64 ((x2.size : Int) + t178)) then ((graftwoodlaw01_awake.f).bind fun t179 => (some t179)) else (some false)))) else (if x0.size + x1.size ≤ 9223372036854775807 then ((octet_Cmp.f x0 (x0 ++ x1)).bind fun t180 => (if t180 = (-1) then ((octet_Common.f k (x2 ++ x0) (x2 ++ x1)).bind fun t181 => ((octet_Common.f k x0 x1).bind fun t182 => (if t181 = (wrap64 ((x2.size : Int) + t182)) then ((graftwoodlaw01_awake.f).bind fun t183 => (some t183)) else (some false)))) else (some false))) else (none))) else (some false))) else (none)) else (none))
def graftwoodlaw01_OctetOrder.f (k : Nat) (a0 : ByteArray) (a1 : ByteArray) (a2 : ByteArray) : Option (Bool) := (graftwoodlaw01_Few.f a0).bind fun t169 => ((graftwoodlaw01_Few.f a1).bind fun t170 => ((graftwoodlaw01_Few.f a2).bind fun t171 => ((octet_Cmp.f t169 t170).bind fun t172 => ((octet_Cmp.f t170 t171).bind fun t173 => ((octet_Cmp.f t169 t171).bind fun t174 => ((octet_Cmp.f t170 t169).bind fun t175 => (if t172 = (wrap64 (-t175)) then (if ((t172 == 0) != (t169.toList == t170.toList)) = true then (graftwoodlaw01_OctetOrder.j0 k t169 t170 t171 t172 true) else (if t172 ≤ 0 then (if t173 ≤ 0 then (if t174 > 0 then (graftwoodlaw01_OctetOrder.j0 k t169 t170 t171 t172 true) else (if t172 < 0 then (graftwoodlaw01_OctetOrder.j0 k t169 t170 t171 t172 (decide (t174 ≥ 0))) else (graftwoodlaw01_OctetOrder.j0 k t169 t170 t171 t172 false))) else (if t172 < 0 then (graftwoodlaw01_OctetOrder.j0 k t169 t170 t171 t172 false) else (graftwoodlaw01_OctetOrder.j0 k t169 t170 t171 t172 false))) else (if t172 < 0 then (if t173 ≤ 0 then (graftwoodlaw01_OctetOrder.j0 k t169 t170 t171 t172 (decide (t174 ≥ 0))) else (graftwoodlaw01_OctetOrder.j0 k t169 t170 t171 t172 false)) else (graftwoodlaw01_OctetOrder.j0 k t169 t170 t171 t172 false)))) else (graftwoodlaw01_OctetOrder.j0 k t169 t170 t171 t172 true))))))))
theorem graftwoodlaw01_OctetOrder.mono_l : ∀ k, (∀ y0 y1 y2 y3 y4, LeO (graftwoodlaw01_OctetOrder.j0 k y0 y1 y2 y3 y4) (graftwoodlaw01_OctetOrder.j0 (k + 1) y0 y1 y2 y3 y4))
  | 0 => fun _ _ _ _ _ r h => by simp [graftwoodlaw01_OctetOrder.j0] at h
  | k + 1 => by
    have ih0 := graftwoodlaw01_OctetOrder.mono_l k
    · intro y0 y1 y2 y3 y4
      unfold graftwoodlaw01_OctetOrder.j0
      repeat' first
      | (with_reducible exact ih0 _ _ _ _ _)
      | (with_reducible exact octet_Common.mono _ _ _)
      | (with_reducible exact LeO.refl _)
      | (with_reducible exact LeO.none _)
      | (with_reducible refine LeO.ite ?_ ?_)
      | (with_reducible refine LeO.bind ?_ (fun _ => ?_))
      | exact ih0 _ _ _ _ _
      | exact octet_Common.mono _ _ _
      | exact LeO.none _
      | refine LeO.ite ?_ ?_
      | refine LeO.bind ?_ (fun _ => ?_)
theorem graftwoodlaw01_OctetOrder.mono : ∀ a0 a1 a2 k, LeO (graftwoodlaw01_OctetOrder.f k a0 a1 a2) (graftwoodlaw01_OctetOrder.f (k + 1) a0 a1 a2) := by
  intro a0 a1 a2 k
  have ih0 := graftwoodlaw01_OctetOrder.mono_l k
  unfold graftwoodlaw01_OctetOrder.f
  repeat' first
      | (with_reducible exact ih0 _ _ _ _ _)
      | (with_reducible exact octet_Common.mono _ _ _)
      | (with_reducible exact LeO.refl _)
      | (with_reducible exact LeO.none _)
      | (with_reducible refine LeO.ite ?_ ?_)
      | (with_reducible refine LeO.bind ?_ (fun _ => ?_))
      | exact ih0 _ _ _ _ _
      | exact octet_Common.mono _ _ _
      | exact LeO.none _
      | refine LeO.ite ?_ ?_
      | refine LeO.bind ?_ (fun _ => ?_)
set_option maxHeartbeats 8000000 in
set_option maxRecDepth 100000 in
theorem graftwoodlaw01_OctetOrder.calls (k : Nat) (a0 : ByteArray) (a1 : ByteArray) (a2 : ByteArray) (r : Bool) (w : World) (h : graftwoodlaw01_OctetOrder.f k a0 a1 a2 = some r) :
    Calls Tryd.prog 6 #[.string a0, .string a1, .string a2] w fun e w' => e = .returned (.bool r) ∧ Below w.heap.size w w' := by
  have HB := Aside0.mk (Below.refl w.heap.size w)
  have H : ((graftwoodlaw01_Few.f a0).bind fun t169 => ((graftwoodlaw01_Few.f a1).bind fun t170 => ((graftwoodlaw01_Few.f a2).bind fun t171 => ((octet_Cmp.f t169 t170).bind fun t172 => ((octet_Cmp.f t170 t171).bind fun t173 => ((octet_Cmp.f t169 t171).bind fun t174 => ((octet_Cmp.f t170 t169).bind fun t175 => (if t172 = (wrap64 (-t175)) then (if ((t172 == 0) != (t169.toList == t170.toList)) = true then (graftwoodlaw01_OctetOrder.j0 k t169 t170 t171 t172 true) else (if t172 ≤ 0 then (if t173 ≤ 0 then (if t174 > 0 then (graftwoodlaw01_OctetOrder.j0 k t169 t170 t171 t172 true) else (if t172 < 0 then (graftwoodlaw01_OctetOrder.j0 k t169 t170 t171 t172 (decide (t174 ≥ 0))) else (graftwoodlaw01_OctetOrder.j0 k t169 t170 t171 t172 false))) else (if t172 < 0 then (graftwoodlaw01_OctetOrder.j0 k t169 t170 t171 t172 false) else (graftwoodlaw01_OctetOrder.j0 k t169 t170 t171 t172 false))) else (if t172 < 0 then (if t173 ≤ 0 then (graftwoodlaw01_OctetOrder.j0 k t169 t170 t171 t172 (decide (t174 ≥ 0))) else (graftwoodlaw01_OctetOrder.j0 k t169 t170 t171 t172 false)) else (graftwoodlaw01_OctetOrder.j0 k t169 t170 t171 t172 false)))) else (graftwoodlaw01_OctetOrder.j0 k t169 t170 t171 t172 true))))))))) = some r := h
  clear h
  replace H := Option.bind_eq_some_iff.mp H
  obtain ⟨t169, A40, H⟩ := H
  replace H : ((graftwoodlaw01_Few.f a1).bind fun t170 => ((graftwoodlaw01_Few.f a2).bind fun t171 => ((octet_Cmp.f t169 t170).bind fun t172 => ((octet_Cmp.f t170 t171).bind fun t173 => ((octet_Cmp.f t169 t171).bind fun t174 => ((octet_Cmp.f t170 t169).bind fun t175 => (if t172 = (wrap64 (-t175)) then (if ((t172 == 0) != (t169.toList == t170.toList)) = true then (graftwoodlaw01_OctetOrder.j0 k t169 t170 t171 t172 true) else (if t172 ≤ 0 then (if t173 ≤ 0 then (if t174 > 0 then (graftwoodlaw01_OctetOrder.j0 k t169 t170 t171 t172 true) else (if t172 < 0 then (graftwoodlaw01_OctetOrder.j0 k t169 t170 t171 t172 (decide (t174 ≥ 0))) else (graftwoodlaw01_OctetOrder.j0 k t169 t170 t171 t172 false))) else (if t172 < 0 then (graftwoodlaw01_OctetOrder.j0 k t169 t170 t171 t172 false) else (graftwoodlaw01_OctetOrder.j0 k t169 t170 t171 t172 false))) else (if t172 < 0 then (if t173 ≤ 0 then (graftwoodlaw01_OctetOrder.j0 k t169 t170 t171 t172 (decide (t174 ≥ 0))) else (graftwoodlaw01_OctetOrder.j0 k t169 t170 t171 t172 false)) else (graftwoodlaw01_OctetOrder.j0 k t169 t170 t171 t172 false)))) else (graftwoodlaw01_OctetOrder.j0 k t169 t170 t171 t172 true)))))))) = some r := H
  have A4 := Aside0.mk A40
  clear A40
  replace H := Option.bind_eq_some_iff.mp H
  obtain ⟨t170, A50, H⟩ := H
  replace H : ((graftwoodlaw01_Few.f a2).bind fun t171 => ((octet_Cmp.f t169 t170).bind fun t172 => ((octet_Cmp.f t170 t171).bind fun t173 => ((octet_Cmp.f t169 t171).bind fun t174 => ((octet_Cmp.f t170 t169).bind fun t175 => (if t172 = (wrap64 (-t175)) then (if ((t172 == 0) != (t169.toList == t170.toList)) = true then (graftwoodlaw01_OctetOrder.j0 k t169 t170 t171 t172 true) else (if t172 ≤ 0 then (if t173 ≤ 0 then (if t174 > 0 then (graftwoodlaw01_OctetOrder.j0 k t169 t170 t171 t172 true) else (if t172 < 0 then (graftwoodlaw01_OctetOrder.j0 k t169 t170 t171 t172 (decide (t174 ≥ 0))) else (graftwoodlaw01_OctetOrder.j0 k t169 t170 t171 t172 false))) else (if t172 < 0 then (graftwoodlaw01_OctetOrder.j0 k t169 t170 t171 t172 false) else (graftwoodlaw01_OctetOrder.j0 k t169 t170 t171 t172 false))) else (if t172 < 0 then (if t173 ≤ 0 then (graftwoodlaw01_OctetOrder.j0 k t169 t170 t171 t172 (decide (t174 ≥ 0))) else (graftwoodlaw01_OctetOrder.j0 k t169 t170 t171 t172 false)) else (graftwoodlaw01_OctetOrder.j0 k t169 t170 t171 t172 false)))) else (graftwoodlaw01_OctetOrder.j0 k t169 t170 t171 t172 true))))))) = some r := H
  have A5 := Aside0.mk A50
  clear A50
  replace H := Option.bind_eq_some_iff.mp H
  obtain ⟨t171, A60, H⟩ := H
  replace H : ((octet_Cmp.f t169 t170).bind fun t172 => ((octet_Cmp.f t170 t171).bind fun t173 => ((octet_Cmp.f t169 t171).bind fun t174 => ((octet_Cmp.f t170 t169).bind fun t175 => (if t172 = (wrap64 (-t175)) then (if ((t172 == 0) != (t169.toList == t170.toList)) = true then (graftwoodlaw01_OctetOrder.j0 k t169 t170 t171 t172 true) else (if t172 ≤ 0 then (if t173 ≤ 0 then (if t174 > 0 then (graftwoodlaw01_OctetOrder.j0 k t169 t170 t171 t172 true) else (if t172 < 0 then (graftwoodlaw01_OctetOrder.j0 k t169 t170 t171 t172 (decide (t174 ≥ 0))) else (graftwoodlaw01_OctetOrder.j0 k t169 t170 t171 t172 false))) else (if t172 < 0 then (graftwoodlaw01_OctetOrder.j0 k t169 t170 t171 t172 false) else (graftwoodlaw01_OctetOrder.j0 k t169 t170 t171 t172 false))) else (if t172 < 0 then (if t173 ≤ 0 then (graftwoodlaw01_OctetOrder.j0 k t169 t170 t171 t172 (decide (t174 ≥ 0))) else (graftwoodlaw01_OctetOrder.j0 k t169 t170 t171 t172 false)) else (graftwoodlaw01_OctetOrder.j0 k t169 t170 t171 t172 false)))) else (graftwoodlaw01_OctetOrder.j0 k t169 t170 t171 t172 true)))))) = some r := H
  have A6 := Aside0.mk A60
  clear A60
  replace H := Option.bind_eq_some_iff.mp H
  obtain ⟨t172, A70, H⟩ := H
  replace H : ((octet_Cmp.f t170 t171).bind fun t173 => ((octet_Cmp.f t169 t171).bind fun t174 => ((octet_Cmp.f t170 t169).bind fun t175 => (if t172 = (wrap64 (-t175)) then (if ((t172 == 0) != (t169.toList == t170.toList)) = true then (graftwoodlaw01_OctetOrder.j0 k t169 t170 t171 t172 true) else (if t172 ≤ 0 then (if t173 ≤ 0 then (if t174 > 0 then (graftwoodlaw01_OctetOrder.j0 k t169 t170 t171 t172 true) else (if t172 < 0 then (graftwoodlaw01_OctetOrder.j0 k t169 t170 t171 t172 (decide (t174 ≥ 0))) else (graftwoodlaw01_OctetOrder.j0 k t169 t170 t171 t172 false))) else (if t172 < 0 then (graftwoodlaw01_OctetOrder.j0 k t169 t170 t171 t172 false) else (graftwoodlaw01_OctetOrder.j0 k t169 t170 t171 t172 false))) else (if t172 < 0 then (if t173 ≤ 0 then (graftwoodlaw01_OctetOrder.j0 k t169 t170 t171 t172 (decide (t174 ≥ 0))) else (graftwoodlaw01_OctetOrder.j0 k t169 t170 t171 t172 false)) else (graftwoodlaw01_OctetOrder.j0 k t169 t170 t171 t172 false)))) else (graftwoodlaw01_OctetOrder.j0 k t169 t170 t171 t172 true))))) = some r := H
  have A7 := Aside0.mk A70
  clear A70
  replace H := Option.bind_eq_some_iff.mp H
  obtain ⟨t173, A80, H⟩ := H
  replace H : ((octet_Cmp.f t169 t171).bind fun t174 => ((octet_Cmp.f t170 t169).bind fun t175 => (if t172 = (wrap64 (-t175)) then (if ((t172 == 0) != (t169.toList == t170.toList)) = true then (graftwoodlaw01_OctetOrder.j0 k t169 t170 t171 t172 true) else (if t172 ≤ 0 then (if t173 ≤ 0 then (if t174 > 0 then (graftwoodlaw01_OctetOrder.j0 k t169 t170 t171 t172 true) else (if t172 < 0 then (graftwoodlaw01_OctetOrder.j0 k t169 t170 t171 t172 (decide (t174 ≥ 0))) else (graftwoodlaw01_OctetOrder.j0 k t169 t170 t171 t172 false))) else (if t172 < 0 then (graftwoodlaw01_OctetOrder.j0 k t169 t170 t171 t172 false) else (graftwoodlaw01_OctetOrder.j0 k t169 t170 t171 t172 false))) else (if t172 < 0 then (if t173 ≤ 0 then (graftwoodlaw01_OctetOrder.j0 k t169 t170 t171 t172 (decide (t174 ≥ 0))) else (graftwoodlaw01_OctetOrder.j0 k t169 t170 t171 t172 false)) else (graftwoodlaw01_OctetOrder.j0 k t169 t170 t171 t172 false)))) else (graftwoodlaw01_OctetOrder.j0 k t169 t170 t171 t172 true)))) = some r := H
  have A8 := Aside0.mk A80
  clear A80
  replace H := Option.bind_eq_some_iff.mp H
  obtain ⟨t174, A90, H⟩ := H
  replace H : ((octet_Cmp.f t170 t169).bind fun t175 => (if t172 = (wrap64 (-t175)) then (if ((t172 == 0) != (t169.toList == t170.toList)) = true then (graftwoodlaw01_OctetOrder.j0 k t169 t170 t171 t172 true) else (if t172 ≤ 0 then (if t173 ≤ 0 then (if t174 > 0 then (graftwoodlaw01_OctetOrder.j0 k t169 t170 t171 t172 true) else (if t172 < 0 then (graftwoodlaw01_OctetOrder.j0 k t169 t170 t171 t172 (decide (t174 ≥ 0))) else (graftwoodlaw01_OctetOrder.j0 k t169 t170 t171 t172 false))) else (if t172 < 0 then (graftwoodlaw01_OctetOrder.j0 k t169 t170 t171 t172 false) else (graftwoodlaw01_OctetOrder.j0 k t169 t170 t171 t172 false))) else (if t172 < 0 then (if t173 ≤ 0 then (graftwoodlaw01_OctetOrder.j0 k t169 t170 t171 t172 (decide (t174 ≥ 0))) else (graftwoodlaw01_OctetOrder.j0 k t169 t170 t171 t172 false)) else (graftwoodlaw01_OctetOrder.j0 k t169 t170 t171 t172 false)))) else (graftwoodlaw01_OctetOrder.j0 k t169 t170 t171 t172 true))) = some r := H
  have A9 := Aside0.mk A90
  clear A90
  have HC10 := Aside0.mk H
  clear H
  go_enter Tryd.func6, Tryd.ntmps6
  go_upto_region 3 with (first | ((with_reducible refine gate_callee (f := 10) rfl ?_); refine goesL_ (some 11) rfl rfl Tryd.func10 (by kernel_rfl) rfl #[.string a0] rfl (by (try simp only [List.map_toArray, List.map_cons, List.map_nil]); first | done | rfl | (simp only [List.length_drop, List.length_take]; rfl)) ?_; (with_reducible refine (graftwoodlaw01_Few.calls a0 t169 _ A4.out).mono ?_); rintro e w' ⟨rfl, ⟨nd, rfl⟩⟩; refine ⟨_, rfl, ?_⟩) | ((with_reducible refine gate_callee (f := 10) rfl ?_); refine goesL_ (some 13) rfl rfl Tryd.func10 (by kernel_rfl) rfl #[.string a1] rfl (by (try simp only [List.map_toArray, List.map_cons, List.map_nil]); first | done | rfl | (simp only [List.length_drop, List.length_take]; rfl)) ?_; (with_reducible refine (graftwoodlaw01_Few.calls a1 t170 _ A5.out).mono ?_); rintro e w' ⟨rfl, ⟨nd, rfl⟩⟩; refine ⟨_, rfl, ?_⟩) | ((with_reducible refine gate_callee (f := 10) rfl ?_); refine goesL_ (some 15) rfl rfl Tryd.func10 (by kernel_rfl) rfl #[.string a2] rfl (by (try simp only [List.map_toArray, List.map_cons, List.map_nil]); first | done | rfl | (simp only [List.length_drop, List.length_take]; rfl)) ?_; (with_reducible refine (graftwoodlaw01_Few.calls a2 t171 _ A6.out).mono ?_); rintro e w' ⟨rfl, ⟨nd, rfl⟩⟩; refine ⟨_, rfl, ?_⟩) | ((with_reducible refine gate_callee (f := 15) rfl ?_); refine goesL_ (some 18) rfl rfl Tryd.func15 (by kernel_rfl) rfl #[.string t169, .string t170] rfl (by (try simp only [List.map_toArray, List.map_cons, List.map_nil]); first | done | rfl | (simp only [List.length_drop, List.length_take]; rfl)) ?_; (with_reducible refine (octet_Cmp.calls t169 t170 t172 _ A7.out).mono ?_); rintro e w' ⟨rfl, ⟨nd, rfl⟩⟩; refine ⟨_, rfl, ?_⟩) | ((with_reducible refine gate_callee (f := 15) rfl ?_); refine goesL_ (some 21) rfl rfl Tryd.func15 (by kernel_rfl) rfl #[.string t170, .string t171] rfl (by (try simp only [List.map_toArray, List.map_cons, List.map_nil]); first | done | rfl | (simp only [List.length_drop, List.length_take]; rfl)) ?_; (with_reducible refine (octet_Cmp.calls t170 t171 t173 _ A8.out).mono ?_); rintro e w' ⟨rfl, ⟨nd, rfl⟩⟩; refine ⟨_, rfl, ?_⟩) | ((with_reducible refine gate_callee (f := 15) rfl ?_); refine goesL_ (some 24) rfl rfl Tryd.func15 (by kernel_rfl) rfl #[.string t169, .string t171] rfl (by (try simp only [List.map_toArray, List.map_cons, List.map_nil]); first | done | rfl | (simp only [List.length_drop, List.length_take]; rfl)) ?_; (with_reducible refine (octet_Cmp.calls t169 t171 t174 _ A9.out).mono ?_); rintro e w' ⟨rfl, ⟨nd, rfl⟩⟩; refine ⟨_, rfl, ?_⟩))
  (try simp only [Act.put, List.setIfInBounds_toArray, List.set_cons_zero, List.set_cons_succ])
  go_cut [62] (fun v62 wc => ∃ (kq : Nat) (x62_9 : Bool), v62 = .bool x62_9 ∧ Aside0 (graftwoodlaw01_OctetOrder.j0 kq t169 t170 t171 t172 x62_9 = some r) ∧ Aside0 (kq ≤ k) ∧ Aside0 (Below w.heap.size w wc))
  case first =>
    have H := HC10.out
    clear HC10
    replace H := Option.bind_eq_some_iff.mp H
    obtain ⟨t175, A110, H⟩ := H
    replace H : (if t172 = (wrap64 (-t175)) then (if ((t172 == 0) != (t169.toList == t170.toList)) = true then (graftwoodlaw01_OctetOrder.j0 k t169 t170 t171 t172 true) else (if t172 ≤ 0 then (if t173 ≤ 0 then (if t174 > 0 then (graftwoodlaw01_OctetOrder.j0 k t169 t170 t171 t172 true) else (if t172 < 0 then (graftwoodlaw01_OctetOrder.j0 k t169 t170 t171 t172 (decide (t174 ≥ 0))) else (graftwoodlaw01_OctetOrder.j0 k t169 t170 t171 t172 false))) else (if t172 < 0 then (graftwoodlaw01_OctetOrder.j0 k t169 t170 t171 t172 false) else (graftwoodlaw01_OctetOrder.j0 k t169 t170 t171 t172 false))) else (if t172 < 0 then (if t173 ≤ 0 then (graftwoodlaw01_OctetOrder.j0 k t169 t170 t171 t172 (decide (t174 ≥ 0))) else (graftwoodlaw01_OctetOrder.j0 k t169 t170 t171 t172 false)) else (graftwoodlaw01_OctetOrder.j0 k t169 t170 t171 t172 false)))) else (graftwoodlaw01_OctetOrder.j0 k t169 t170 t171 t172 true)) = some r := H
    have A11 := Aside0.mk A110
    clear A110
    by_cases c12 : t172 = (wrap64 (-t175))
    · rw [if_pos c12] at H
      have c12b0 : (t172 == (wrap64 (-t175))) = true := beq_iff_eq.mpr c12
      have c12b1 : (t172 != (wrap64 (-t175))) = false := bne_eq_false_iff_eq.mpr c12
      clear c12
      (first | rw [c12b0] | (simp only [i64_w, i32_w]; rw [c12b0]) | skip)
      by_cases c13 : ((t172 == 0) != (t169.toList == t170.toList)) = true
      · rw [if_pos c13] at H
        have c13b0 : ((t172 == 0) != (t169.toList == t170.toList)) = true := c13
        (try (have c13b1 : decide ((t172 == 0) = (t169.toList == t170.toList)) = false := by simpa using c13))
        (try (have c13b2 : ((t172 == 0) == (t169.toList == t170.toList)) = false := by simpa using c13))
        (try (have c13b3 : ¬ ((t172 == 0) = (t169.toList == t170.toList)) := by simpa using c13))
        clear c13
        have H' := Aside0.mk H
        clear H
        go_wp2_with (first | ((with_reducible refine gate_callee (f := 15) rfl ?_); refine goesL_ (some 28) rfl rfl Tryd.func15 (by kernel_rfl) rfl #[.string t170, .string t169] rfl (by (try simp only [List.map_toArray, List.map_cons, List.map_nil]); first | done | rfl | (simp only [List.length_drop, List.length_take]; rfl)) ?_; (with_reducible refine (octet_Cmp.calls t170 t169 t175 _ A11.out).mono ?_); rintro e w' ⟨rfl, ⟨nd, rfl⟩⟩; refine ⟨_, rfl, ?_⟩))
        go_meet
        case rel => exact ⟨_, (true), (by first | rfl | (simp; done) | (simp [*]; done)), H', ⟨by first | omega | exact Nat.le_refl _⟩, ⟨by repeat (first | (with_reducible first | exact HB.out | apply below_alloc | apply pw_below_drewN | apply below_drew1) | exact HB.out)⟩⟩
      · rw [if_neg c13] at H
        have c13b0 : ((t172 == 0) != (t169.toList == t170.toList)) = false := by simpa using c13
        (try (have c13b1 : decide ((t172 == 0) = (t169.toList == t170.toList)) = true := by simpa using c13))
        (try (have c13b2 : ((t172 == 0) == (t169.toList == t170.toList)) = true := by simpa using c13))
        clear c13
        by_cases c14 : t172 ≤ 0
        · rw [if_pos c14] at H
          have c14b0 : decide (t172 ≤ 0) = true := decide_eq_true c14
          clear c14
          by_cases c15 : t173 ≤ 0
          · rw [if_pos c15] at H
            have c15b0 : decide (t173 ≤ 0) = true := decide_eq_true c15
            clear c15
            by_cases c16 : t174 > 0
            · rw [if_pos c16] at H
              have c16b0 : decide (0 < t174) = true := decide_eq_true c16
              clear c16
              have H' := Aside0.mk H
              clear H
              go_wp2_with (first | ((with_reducible refine gate_callee (f := 15) rfl ?_); refine goesL_ (some 28) rfl rfl Tryd.func15 (by kernel_rfl) rfl #[.string t170, .string t169] rfl (by (try simp only [List.map_toArray, List.map_cons, List.map_nil]); first | done | rfl | (simp only [List.length_drop, List.length_take]; rfl)) ?_; (with_reducible refine (octet_Cmp.calls t170 t169 t175 _ A11.out).mono ?_); rintro e w' ⟨rfl, ⟨nd, rfl⟩⟩; refine ⟨_, rfl, ?_⟩))
              go_meet
              case rel => exact ⟨_, (true), (by first | rfl | (simp; done) | (simp [*]; done)), H', ⟨by first | omega | exact Nat.le_refl _⟩, ⟨by repeat (first | (with_reducible first | exact HB.out | apply below_alloc | apply pw_below_drewN | apply below_drew1) | exact HB.out)⟩⟩
            · rw [if_neg c16] at H
              have c16b0 : decide (0 < t174) = false := decide_eq_false c16
              clear c16
              by_cases c17 : t172 < 0
              · rw [if_pos c17] at H
                have c17b0 : decide (t172 < 0) = true := decide_eq_true c17
                clear c17
                have H' := Aside0.mk H
                clear H
                go_wp2_with (first | ((with_reducible refine gate_callee (f := 15) rfl ?_); refine goesL_ (some 28) rfl rfl Tryd.func15 (by kernel_rfl) rfl #[.string t170, .string t169] rfl (by (try simp only [List.map_toArray, List.map_cons, List.map_nil]); first | done | rfl | (simp only [List.length_drop, List.length_take]; rfl)) ?_; (with_reducible refine (octet_Cmp.calls t170 t169 t175 _ A11.out).mono ?_); rintro e w' ⟨rfl, ⟨nd, rfl⟩⟩; refine ⟨_, rfl, ?_⟩))
                go_meet
                case rel => exact ⟨_, (decide (t174 ≥ 0)), (by first | rfl | (simp; done) | (simp [*]; done)), H', ⟨by first | omega | exact Nat.le_refl _⟩, ⟨by repeat (first | (with_reducible first | exact HB.out | apply below_alloc | apply pw_below_drewN | apply below_drew1) | exact HB.out)⟩⟩
              · rw [if_neg c17] at H
                have c17b0 : decide (t172 < 0) = false := decide_eq_false c17
                clear c17
                have H' := Aside0.mk H
                clear H
                go_wp2_with (first | ((with_reducible refine gate_callee (f := 15) rfl ?_); refine goesL_ (some 28) rfl rfl Tryd.func15 (by kernel_rfl) rfl #[.string t170, .string t169] rfl (by (try simp only [List.map_toArray, List.map_cons, List.map_nil]); first | done | rfl | (simp only [List.length_drop, List.length_take]; rfl)) ?_; (with_reducible refine (octet_Cmp.calls t170 t169 t175 _ A11.out).mono ?_); rintro e w' ⟨rfl, ⟨nd, rfl⟩⟩; refine ⟨_, rfl, ?_⟩))
                go_meet
                case rel => exact ⟨_, (false), (by first | rfl | (simp; done) | (simp [*]; done)), H', ⟨by first | omega | exact Nat.le_refl _⟩, ⟨by repeat (first | (with_reducible first | exact HB.out | apply below_alloc | apply pw_below_drewN | apply below_drew1) | exact HB.out)⟩⟩
          · rw [if_neg c15] at H
            have c15b0 : decide (t173 ≤ 0) = false := decide_eq_false c15
            clear c15
            by_cases c18 : t172 < 0
            · rw [if_pos c18] at H
              have c18b0 : decide (t172 < 0) = true := decide_eq_true c18
              clear c18
              have H' := Aside0.mk H
              clear H
              go_wp2_with (first | ((with_reducible refine gate_callee (f := 15) rfl ?_); refine goesL_ (some 28) rfl rfl Tryd.func15 (by kernel_rfl) rfl #[.string t170, .string t169] rfl (by (try simp only [List.map_toArray, List.map_cons, List.map_nil]); first | done | rfl | (simp only [List.length_drop, List.length_take]; rfl)) ?_; (with_reducible refine (octet_Cmp.calls t170 t169 t175 _ A11.out).mono ?_); rintro e w' ⟨rfl, ⟨nd, rfl⟩⟩; refine ⟨_, rfl, ?_⟩))
              go_meet
              case rel => exact ⟨_, (false), (by first | rfl | (simp; done) | (simp [*]; done)), H', ⟨by first | omega | exact Nat.le_refl _⟩, ⟨by repeat (first | (with_reducible first | exact HB.out | apply below_alloc | apply pw_below_drewN | apply below_drew1) | exact HB.out)⟩⟩
            · rw [if_neg c18] at H
              have c18b0 : decide (t172 < 0) = false := decide_eq_false c18
              clear c18
              have H' := Aside0.mk H
              clear H
              go_wp2_with (first | ((with_reducible refine gate_callee (f := 15) rfl ?_); refine goesL_ (some 28) rfl rfl Tryd.func15 (by kernel_rfl) rfl #[.string t170, .string t169] rfl (by (try simp only [List.map_toArray, List.map_cons, List.map_nil]); first | done | rfl | (simp only [List.length_drop, List.length_take]; rfl)) ?_; (with_reducible refine (octet_Cmp.calls t170 t169 t175 _ A11.out).mono ?_); rintro e w' ⟨rfl, ⟨nd, rfl⟩⟩; refine ⟨_, rfl, ?_⟩))
              go_meet
              case rel => exact ⟨_, (false), (by first | rfl | (simp; done) | (simp [*]; done)), H', ⟨by first | omega | exact Nat.le_refl _⟩, ⟨by repeat (first | (with_reducible first | exact HB.out | apply below_alloc | apply pw_below_drewN | apply below_drew1) | exact HB.out)⟩⟩
        · rw [if_neg c14] at H
          have c14b0 : decide (t172 ≤ 0) = false := decide_eq_false c14
          clear c14
          by_cases c19 : t172 < 0
          · rw [if_pos c19] at H
            have c19b0 : decide (t172 < 0) = true := decide_eq_true c19
            clear c19
            by_cases c20 : t173 ≤ 0
            · rw [if_pos c20] at H
              have c20b0 : decide (t173 ≤ 0) = true := decide_eq_true c20
              clear c20
              have H' := Aside0.mk H
              clear H
              go_wp2_with (first | ((with_reducible refine gate_callee (f := 15) rfl ?_); refine goesL_ (some 28) rfl rfl Tryd.func15 (by kernel_rfl) rfl #[.string t170, .string t169] rfl (by (try simp only [List.map_toArray, List.map_cons, List.map_nil]); first | done | rfl | (simp only [List.length_drop, List.length_take]; rfl)) ?_; (with_reducible refine (octet_Cmp.calls t170 t169 t175 _ A11.out).mono ?_); rintro e w' ⟨rfl, ⟨nd, rfl⟩⟩; refine ⟨_, rfl, ?_⟩))
              go_meet
              case rel => exact ⟨_, (decide (t174 ≥ 0)), (by first | rfl | (simp; done) | (simp [*]; done)), H', ⟨by first | omega | exact Nat.le_refl _⟩, ⟨by repeat (first | (with_reducible first | exact HB.out | apply below_alloc | apply pw_below_drewN | apply below_drew1) | exact HB.out)⟩⟩
            · rw [if_neg c20] at H
              have c20b0 : decide (t173 ≤ 0) = false := decide_eq_false c20
              clear c20
              have H' := Aside0.mk H
              clear H
              go_wp2_with (first | ((with_reducible refine gate_callee (f := 15) rfl ?_); refine goesL_ (some 28) rfl rfl Tryd.func15 (by kernel_rfl) rfl #[.string t170, .string t169] rfl (by (try simp only [List.map_toArray, List.map_cons, List.map_nil]); first | done | rfl | (simp only [List.length_drop, List.length_take]; rfl)) ?_; (with_reducible refine (octet_Cmp.calls t170 t169 t175 _ A11.out).mono ?_); rintro e w' ⟨rfl, ⟨nd, rfl⟩⟩; refine ⟨_, rfl, ?_⟩))
              go_meet
              case rel => exact ⟨_, (false), (by first | rfl | (simp; done) | (simp [*]; done)), H', ⟨by first | omega | exact Nat.le_refl _⟩, ⟨by repeat (first | (with_reducible first | exact HB.out | apply below_alloc | apply pw_below_drewN | apply below_drew1) | exact HB.out)⟩⟩
          · rw [if_neg c19] at H
            have c19b0 : decide (t172 < 0) = false := decide_eq_false c19
            clear c19
            have H' := Aside0.mk H
            clear H
            go_wp2_with (first | ((with_reducible refine gate_callee (f := 15) rfl ?_); refine goesL_ (some 28) rfl rfl Tryd.func15 (by kernel_rfl) rfl #[.string t170, .string t169] rfl (by (try simp only [List.map_toArray, List.map_cons, List.map_nil]); first | done | rfl | (simp only [List.length_drop, List.length_take]; rfl)) ?_; (with_reducible refine (octet_Cmp.calls t170 t169 t175 _ A11.out).mono ?_); rintro e w' ⟨rfl, ⟨nd, rfl⟩⟩; refine ⟨_, rfl, ?_⟩))
            go_meet
            case rel => exact ⟨_, (false), (by first | rfl | (simp; done) | (simp [*]; done)), H', ⟨by first | omega | exact Nat.le_refl _⟩, ⟨by repeat (first | (with_reducible first | exact HB.out | apply below_alloc | apply pw_below_drewN | apply below_drew1) | exact HB.out)⟩⟩
    · rw [if_neg c12] at H
      have c12b0 : (t172 == (wrap64 (-t175))) = false := beq_eq_false_iff_ne.mpr c12
      have c12b1 : (t172 != (wrap64 (-t175))) = true := bne_iff_ne.mpr c12
      (first | rw [c12b0] | (simp only [i64_w, i32_w]; rw [c12b0]) | skip)
      have H' := Aside0.mk H
      clear H
      go_wp2_with (first | ((with_reducible refine gate_callee (f := 15) rfl ?_); refine goesL_ (some 28) rfl rfl Tryd.func15 (by kernel_rfl) rfl #[.string t170, .string t169] rfl (by (try simp only [List.map_toArray, List.map_cons, List.map_nil]); first | done | rfl | (simp only [List.length_drop, List.length_take]; rfl)) ?_; (with_reducible refine (octet_Cmp.calls t170 t169 t175 _ A11.out).mono ?_); rintro e w' ⟨rfl, ⟨nd, rfl⟩⟩; refine ⟨_, rfl, ?_⟩))
      go_meet
      case rel => exact ⟨_, (true), (by first | rfl | (simp; done) | (simp [*]; done)), H', ⟨by first | omega | exact Nat.le_refl _⟩, ⟨by repeat (first | (with_reducible first | exact HB.out | apply below_alloc | apply pw_below_drewN | apply below_drew1) | exact HB.out)⟩⟩
  case rest =>
    clear HC10
    try clear c1
    try clear c2
    try clear p2
    try clear c6
    try clear p6
    try clear c10
    try clear c12
    try clear c12b0
    try clear c12b1
    try clear c13
    try clear c13b0
    try clear c13b1
    try clear c13b2
    try clear c14
    try clear c14b0
    try clear c15
    try clear c15b0
    try clear c16
    try clear c16b0
    try clear c17
    try clear c17b0
    try clear c18
    try clear c18b0
    try clear c19
    try clear c19b0
    try clear c20
    try clear c20b0
    obtain ⟨kq, x62_9, rfl, HA, HJ9, HB⟩ := hcut
    cases kq with
    | zero => exact absurd HA.out (by simp [graftwoodlaw01_OctetOrder.j0])
    | succ kj9 =>
      have H := HA.out
      clear HA
      simp only [graftwoodlaw01_OctetOrder.j0] at H
      by_cases c21 : x62_9 = true
      · subst c21
        have H1 : (some false) = some r := by rw [if_pos rfl] at H; exact H
        clear H
        have H := H1
        clear H1
        obtain rfl := Option.some.inj H
        go_wp2
        go_ret
        exact ⟨by first | rfl | (simp [errW_none, errW_some] <;> rfl) | (simp [*, errW_none, errW_some] <;> rfl), by repeat (first | (with_reducible first | exact HB.out | apply below_alloc | apply pw_below_drewN | apply below_drew1) | exact HB.out)⟩
      · replace c21 := Bool.eq_false_iff.mpr c21
        subst c21
        have H1 : (if t171.size + t169.size ≤ 9223372036854775807 then (if t171.size + t170.size ≤ 9223372036854775807 then ((octet_Cmp.f (t171 ++ t169) (t171 ++ t170)).bind fun t176 => (if t176 = t172 then (if t170.toList = ([] : List UInt8) then ((octet_Common.f kj9 (t171 ++ t169) (t171 ++ t170)).bind fun t177 => ((octet_Common.f kj9 t169 t170).bind fun t178 => (if t177 = (wrap64 ((t171.size : Int) + t178)) then ((graftwoodlaw01_awake.f).bind fun t179 => (some t179)) else (some false)))) else (if t169.size + t170.size ≤ 9223372036854775807 then ((octet_Cmp.f t169 (t169 ++ t170)).bind fun t180 => (if t180 = (-1) then ((octet_Common.f kj9 (t171 ++ t169) (t171 ++ t170)).bind fun t181 => ((octet_Common.f kj9 t169 t170).bind fun t182 => (if t181 = (wrap64 ((t171.size : Int) + t182)) then ((graftwoodlaw01_awake.f).bind fun t183 => (some t183)) else (some false)))) else (some false))) else (none))) else (some false))) else (none)) else (none)) = some r := by rw [if_neg (show ¬ (false = true) by decide)] at H; exact H
        clear H
        have H := H1
        clear H1
        by_cases c22 : t171.size + t169.size ≤ 9223372036854775807
        · rw [if_pos c22] at H
          have c22b0 := eq_true c22
          have c22b1 : decide (t171.size + t169.size ≤ 9223372036854775807) = true := decide_eq_true c22
          try have c22b2 : (9223372036854775807 < t171.size + t169.size) = False := eq_false (Nat.not_lt.2 c22)
          by_cases c23 : t171.size + t170.size ≤ 9223372036854775807
          · rw [if_pos c23] at H
            have c23b0 := eq_true c23
            have c23b1 : decide (t171.size + t170.size ≤ 9223372036854775807) = true := decide_eq_true c23
            try have c23b2 : (9223372036854775807 < t171.size + t170.size) = False := eq_false (Nat.not_lt.2 c23)
            replace H := Option.bind_eq_some_iff.mp H
            obtain ⟨t176, A240, H⟩ := H
            replace H : (if t176 = t172 then (if t170.toList = ([] : List UInt8) then ((octet_Common.f kj9 (t171 ++ t169) (t171 ++ t170)).bind fun t177 => ((octet_Common.f kj9 t169 t170).bind fun t178 => (if t177 = (wrap64 ((t171.size : Int) + t178)) then ((graftwoodlaw01_awake.f).bind fun t179 => (some t179)) else (some false)))) else (if t169.size + t170.size ≤ 9223372036854775807 then ((octet_Cmp.f t169 (t169 ++ t170)).bind fun t180 => (if t180 = (-1) then ((octet_Common.f kj9 (t171 ++ t169) (t171 ++ t170)).bind fun t181 => ((octet_Common.f kj9 t169 t170).bind fun t182 => (if t181 = (wrap64 ((t171.size : Int) + t182)) then ((graftwoodlaw01_awake.f).bind fun t183 => (some t183)) else (some false)))) else (some false))) else (none))) else (some false)) = some r := H
            have A24 := Aside0.mk A240
            clear A240
            by_cases c25 : t176 = t172
            · rw [if_pos c25] at H
              have c25b0 : (t176 == t172) = true := beq_iff_eq.mpr c25
              have c25b1 : (t176 != t172) = false := bne_eq_false_iff_eq.mpr c25
              clear c25
              by_cases c26 : t170.toList = ([] : List UInt8)
              · rw [if_pos c26] at H
                have c26b0 : (t170.toList == ([] : List UInt8)) = true := beq_iff_eq.mpr c26
                have c26b1 : (t170.toList != ([] : List UInt8)) = false := bne_eq_false_iff_eq.mpr c26
                clear c26
                replace H := Option.bind_eq_some_iff.mp H
                obtain ⟨t177, A270, H⟩ := H
                replace H : ((octet_Common.f kj9 t169 t170).bind fun t178 => (if t177 = (wrap64 ((t171.size : Int) + t178)) then ((graftwoodlaw01_awake.f).bind fun t179 => (some t179)) else (some false))) = some r := H
                have A27 := Aside0.mk A270
                clear A270
                replace H := Option.bind_eq_some_iff.mp H
                obtain ⟨t178, A280, H⟩ := H
                replace H : (if t177 = (wrap64 ((t171.size : Int) + t178)) then ((graftwoodlaw01_awake.f).bind fun t179 => (some t179)) else (some false)) = some r := H
                have A28 := Aside0.mk A280
                clear A280
                by_cases c29 : t177 = (wrap64 ((t171.size : Int) + t178))
                · rw [if_pos c29] at H
                  have c29b0 : (t177 == (wrap64 ((t171.size : Int) + t178))) = true := beq_iff_eq.mpr c29
                  have c29b1 : (t177 != (wrap64 ((t171.size : Int) + t178))) = false := bne_eq_false_iff_eq.mpr c29
                  clear c29
                  replace H := Option.bind_eq_some_iff.mp H
                  obtain ⟨t179, A300, H⟩ := H
                  replace H : (some t179) = some r := H
                  have A30 := Aside0.mk A300
                  clear A300
                  obtain rfl := Option.some.inj H
                  go_wp2_with (first | ((with_reducible refine gate_callee (f := 15) rfl ?_); refine goesL_ (some 69) rfl rfl Tryd.func15 (by kernel_rfl) rfl #[.string (t171 ++ t169), .string (t171 ++ t170)] rfl (by (try simp only [List.map_toArray, List.map_cons, List.map_nil]); first | done | rfl | (simp only [List.length_drop, List.length_take]; rfl)) ?_; (with_reducible refine (octet_Cmp.calls (t171 ++ t169) (t171 ++ t170) t176 _ A24.out).mono ?_); rintro e w' ⟨rfl, ⟨nd, rfl⟩⟩; refine ⟨_, rfl, ?_⟩) | (go_at_call 14; (with_reducible refine (octet_Common.calls kj9 (t171 ++ t169) (t171 ++ t170) t177 _ A27.out).mono ?_); rintro e w31 ⟨rfl, hb⟩; have n0_ := Aside0.mk (below_step (by repeat (first | (with_reducible first | exact HB.out | apply below_alloc | apply pw_below_drewN | apply below_drew1) | exact HB.out)) hb); clear HB; have HB := n0_; clear n0_; (try clear hb); (try clear hb2); (try clear hk); (try clear hi)) | (go_at_call 14; (with_reducible refine (octet_Common.calls kj9 t169 t170 t178 _ A28.out).mono ?_); rintro e w32 ⟨rfl, hb⟩; have n0_ := Aside0.mk (below_step (by repeat (first | (with_reducible first | exact HB.out | apply below_alloc | apply pw_below_drewN | apply below_drew1) | exact HB.out)) hb); clear HB; have HB := n0_; clear n0_; (try clear hb); (try clear hb2); (try clear hk); (try clear hi)) | (go_at_call 12; (with_reducible refine (graftwoodlaw01_awake.calls  t179 _ A30.out).mono ?_); rintro e w33 ⟨rfl, hb⟩; have n0_ := Aside0.mk (below_step (by repeat (first | (with_reducible first | exact HB.out | apply below_alloc | apply pw_below_drewN | apply below_drew1) | exact HB.out)) hb); clear HB; have HB := n0_; clear n0_; (try clear hb); (try clear hb2); (try clear hk); (try clear hi)))
                  go_ret
                  exact ⟨by first | rfl | (simp [errW_none, errW_some] <;> rfl) | (simp [*, errW_none, errW_some] <;> rfl), by repeat (first | (with_reducible first | exact HB.out | apply below_alloc | apply pw_below_drewN | apply below_drew1) | exact HB.out)⟩
                · rw [if_neg c29] at H
                  have c29b0 : (t177 == (wrap64 ((t171.size : Int) + t178))) = false := beq_eq_false_iff_ne.mpr c29
                  have c29b1 : (t177 != (wrap64 ((t171.size : Int) + t178))) = true := bne_iff_ne.mpr c29
                  obtain rfl := Option.some.inj H
                  go_wp2_with (first | ((with_reducible refine gate_callee (f := 15) rfl ?_); refine goesL_ (some 69) rfl rfl Tryd.func15 (by kernel_rfl) rfl #[.string (t171 ++ t169), .string (t171 ++ t170)] rfl (by (try simp only [List.map_toArray, List.map_cons, List.map_nil]); first | done | rfl | (simp only [List.length_drop, List.length_take]; rfl)) ?_; (with_reducible refine (octet_Cmp.calls (t171 ++ t169) (t171 ++ t170) t176 _ A24.out).mono ?_); rintro e w' ⟨rfl, ⟨nd, rfl⟩⟩; refine ⟨_, rfl, ?_⟩) | (go_at_call 14; (with_reducible refine (octet_Common.calls kj9 (t171 ++ t169) (t171 ++ t170) t177 _ A27.out).mono ?_); rintro e w34 ⟨rfl, hb⟩; have n0_ := Aside0.mk (below_step (by repeat (first | (with_reducible first | exact HB.out | apply below_alloc | apply pw_below_drewN | apply below_drew1) | exact HB.out)) hb); clear HB; have HB := n0_; clear n0_; (try clear hb); (try clear hb2); (try clear hk); (try clear hi)) | (go_at_call 14; (with_reducible refine (octet_Common.calls kj9 t169 t170 t178 _ A28.out).mono ?_); rintro e w35 ⟨rfl, hb⟩; have n0_ := Aside0.mk (below_step (by repeat (first | (with_reducible first | exact HB.out | apply below_alloc | apply pw_below_drewN | apply below_drew1) | exact HB.out)) hb); clear HB; have HB := n0_; clear n0_; (try clear hb); (try clear hb2); (try clear hk); (try clear hi)))
                  go_ret
                  exact ⟨by first | rfl | (simp [errW_none, errW_some] <;> rfl) | (simp [*, errW_none, errW_some] <;> rfl), by repeat (first | (with_reducible first | exact HB.out | apply below_alloc | apply pw_below_drewN | apply below_drew1) | exact HB.out)⟩
              · rw [if_neg c26] at H
                have c26b0 : (t170.toList == ([] : List UInt8)) = false := beq_eq_false_iff_ne.mpr c26
                have c26b1 : (t170.toList != ([] : List UInt8)) = true := bne_iff_ne.mpr c26
                by_cases c36 : t169.size + t170.size ≤ 9223372036854775807
                · rw [if_pos c36] at H
                  have c36b0 := eq_true c36
                  have c36b1 : decide (t169.size + t170.size ≤ 9223372036854775807) = true := decide_eq_true c36
                  try have c36b2 : (9223372036854775807 < t169.size + t170.size) = False := eq_false (Nat.not_lt.2 c36)
                  replace H := Option.bind_eq_some_iff.mp H
                  obtain ⟨t180, A370, H⟩ := H
                  replace H : (if t180 = (-1) then ((octet_Common.f kj9 (t171 ++ t169) (t171 ++ t170)).bind fun t181 => ((octet_Common.f kj9 t169 t170).bind fun t182 => (if t181 = (wrap64 ((t171.size : Int) + t182)) then ((graftwoodlaw01_awake.f).bind fun t183 => (some t183)) else (some false)))) else (some false)) = some r := H
                  have A37 := Aside0.mk A370
                  clear A370
                  by_cases c38 : t180 = (-1)
                  · rw [if_pos c38] at H
                    have c38b0 : (t180 == (-1)) = true := beq_iff_eq.mpr c38
                    have c38b1 : (t180 != (-1)) = false := bne_eq_false_iff_eq.mpr c38
                    clear c38
                    replace H := Option.bind_eq_some_iff.mp H
                    obtain ⟨t181, A390, H⟩ := H
                    replace H : ((octet_Common.f kj9 t169 t170).bind fun t182 => (if t181 = (wrap64 ((t171.size : Int) + t182)) then ((graftwoodlaw01_awake.f).bind fun t183 => (some t183)) else (some false))) = some r := H
                    have A39 := Aside0.mk A390
                    clear A390
                    replace H := Option.bind_eq_some_iff.mp H
                    obtain ⟨t182, A400, H⟩ := H
                    replace H : (if t181 = (wrap64 ((t171.size : Int) + t182)) then ((graftwoodlaw01_awake.f).bind fun t183 => (some t183)) else (some false)) = some r := H
                    have A40 := Aside0.mk A400
                    clear A400
                    by_cases c41 : t181 = (wrap64 ((t171.size : Int) + t182))
                    · rw [if_pos c41] at H
                      have c41b0 : (t181 == (wrap64 ((t171.size : Int) + t182))) = true := beq_iff_eq.mpr c41
                      have c41b1 : (t181 != (wrap64 ((t171.size : Int) + t182))) = false := bne_eq_false_iff_eq.mpr c41
                      clear c41
                      replace H := Option.bind_eq_some_iff.mp H
                      obtain ⟨t183, A420, H⟩ := H
                      replace H : (some t183) = some r := H
                      have A42 := Aside0.mk A420
                      clear A420
                      obtain rfl := Option.some.inj H
                      go_wp2_with (first | ((with_reducible refine gate_callee (f := 15) rfl ?_); refine goesL_ (some 69) rfl rfl Tryd.func15 (by kernel_rfl) rfl #[.string (t171 ++ t169), .string (t171 ++ t170)] rfl (by (try simp only [List.map_toArray, List.map_cons, List.map_nil]); first | done | rfl | (simp only [List.length_drop, List.length_take]; rfl)) ?_; (with_reducible refine (octet_Cmp.calls (t171 ++ t169) (t171 ++ t170) t176 _ A24.out).mono ?_); rintro e w' ⟨rfl, ⟨nd, rfl⟩⟩; refine ⟨_, rfl, ?_⟩) | (go_at_call 15; (with_reducible refine (octet_Cmp.calls t169 (t169 ++ t170) t180 _ A37.out).mono ?_); rintro e w' ⟨rfl, ⟨nd, rfl⟩⟩) | (go_at_call 14; (with_reducible refine (octet_Common.calls kj9 (t171 ++ t169) (t171 ++ t170) t181 _ A39.out).mono ?_); rintro e w43 ⟨rfl, hb⟩; have n0_ := Aside0.mk (below_step (by repeat (first | (with_reducible first | exact HB.out | apply below_alloc | apply pw_below_drewN | apply below_drew1) | exact HB.out)) hb); clear HB; have HB := n0_; clear n0_; (try clear hb); (try clear hb2); (try clear hk); (try clear hi)) | (go_at_call 14; (with_reducible refine (octet_Common.calls kj9 t169 t170 t182 _ A40.out).mono ?_); rintro e w44 ⟨rfl, hb⟩; have n0_ := Aside0.mk (below_step (by repeat (first | (with_reducible first | exact HB.out | apply below_alloc | apply pw_below_drewN | apply below_drew1) | exact HB.out)) hb); clear HB; have HB := n0_; clear n0_; (try clear hb); (try clear hb2); (try clear hk); (try clear hi)) | (go_at_call 12; (with_reducible refine (graftwoodlaw01_awake.calls  t183 _ A42.out).mono ?_); rintro e w45 ⟨rfl, hb⟩; have n0_ := Aside0.mk (below_step (by repeat (first | (with_reducible first | exact HB.out | apply below_alloc | apply pw_below_drewN | apply below_drew1) | exact HB.out)) hb); clear HB; have HB := n0_; clear n0_; (try clear hb); (try clear hb2); (try clear hk); (try clear hi)))
                      go_ret
                      exact ⟨by first | rfl | (simp [errW_none, errW_some] <;> rfl) | (simp [*, errW_none, errW_some] <;> rfl), by repeat (first | (with_reducible first | exact HB.out | apply below_alloc | apply pw_below_drewN | apply below_drew1) | exact HB.out)⟩
                    · rw [if_neg c41] at H
                      have c41b0 : (t181 == (wrap64 ((t171.size : Int) + t182))) = false := beq_eq_false_iff_ne.mpr c41
                      have c41b1 : (t181 != (wrap64 ((t171.size : Int) + t182))) = true := bne_iff_ne.mpr c41
                      obtain rfl := Option.some.inj H
                      go_wp2_with (first | ((with_reducible refine gate_callee (f := 15) rfl ?_); refine goesL_ (some 69) rfl rfl Tryd.func15 (by kernel_rfl) rfl #[.string (t171 ++ t169), .string (t171 ++ t170)] rfl (by (try simp only [List.map_toArray, List.map_cons, List.map_nil]); first | done | rfl | (simp only [List.length_drop, List.length_take]; rfl)) ?_; (with_reducible refine (octet_Cmp.calls (t171 ++ t169) (t171 ++ t170) t176 _ A24.out).mono ?_); rintro e w' ⟨rfl, ⟨nd, rfl⟩⟩; refine ⟨_, rfl, ?_⟩) | (go_at_call 15; (with_reducible refine (octet_Cmp.calls t169 (t169 ++ t170) t180 _ A37.out).mono ?_); rintro e w' ⟨rfl, ⟨nd, rfl⟩⟩) | (go_at_call 14; (with_reducible refine (octet_Common.calls kj9 (t171 ++ t169) (t171 ++ t170) t181 _ A39.out).mono ?_); rintro e w46 ⟨rfl, hb⟩; have n0_ := Aside0.mk (below_step (by repeat (first | (with_reducible first | exact HB.out | apply below_alloc | apply pw_below_drewN | apply below_drew1) | exact HB.out)) hb); clear HB; have HB := n0_; clear n0_; (try clear hb); (try clear hb2); (try clear hk); (try clear hi)) | (go_at_call 14; (with_reducible refine (octet_Common.calls kj9 t169 t170 t182 _ A40.out).mono ?_); rintro e w47 ⟨rfl, hb⟩; have n0_ := Aside0.mk (below_step (by repeat (first | (with_reducible first | exact HB.out | apply below_alloc | apply pw_below_drewN | apply below_drew1) | exact HB.out)) hb); clear HB; have HB := n0_; clear n0_; (try clear hb); (try clear hb2); (try clear hk); (try clear hi)))
                      go_ret
                      exact ⟨by first | rfl | (simp [errW_none, errW_some] <;> rfl) | (simp [*, errW_none, errW_some] <;> rfl), by repeat (first | (with_reducible first | exact HB.out | apply below_alloc | apply pw_below_drewN | apply below_drew1) | exact HB.out)⟩
                  · rw [if_neg c38] at H
                    have c38b0 : (t180 == (-1)) = false := beq_eq_false_iff_ne.mpr c38
                    have c38b1 : (t180 != (-1)) = true := bne_iff_ne.mpr c38
                    obtain rfl := Option.some.inj H
                    go_wp2_with (first | ((with_reducible refine gate_callee (f := 15) rfl ?_); refine goesL_ (some 69) rfl rfl Tryd.func15 (by kernel_rfl) rfl #[.string (t171 ++ t169), .string (t171 ++ t170)] rfl (by (try simp only [List.map_toArray, List.map_cons, List.map_nil]); first | done | rfl | (simp only [List.length_drop, List.length_take]; rfl)) ?_; (with_reducible refine (octet_Cmp.calls (t171 ++ t169) (t171 ++ t170) t176 _ A24.out).mono ?_); rintro e w' ⟨rfl, ⟨nd, rfl⟩⟩; refine ⟨_, rfl, ?_⟩) | (go_at_call 15; (with_reducible refine (octet_Cmp.calls t169 (t169 ++ t170) t180 _ A37.out).mono ?_); rintro e w' ⟨rfl, ⟨nd, rfl⟩⟩))
                    go_ret
                    exact ⟨by first | rfl | (simp [errW_none, errW_some] <;> rfl) | (simp [*, errW_none, errW_some] <;> rfl), by repeat (first | (with_reducible first | exact HB.out | apply below_alloc | apply pw_below_drewN | apply below_drew1) | exact HB.out)⟩
                · rw [if_neg c36] at H
                  exact absurd H (by simp)
            · rw [if_neg c25] at H
              have c25b0 : (t176 == t172) = false := beq_eq_false_iff_ne.mpr c25
              have c25b1 : (t176 != t172) = true := bne_iff_ne.mpr c25
              obtain rfl := Option.some.inj H
              go_wp2_with (first | ((with_reducible refine gate_callee (f := 15) rfl ?_); refine goesL_ (some 69) rfl rfl Tryd.func15 (by kernel_rfl) rfl #[.string (t171 ++ t169), .string (t171 ++ t170)] rfl (by (try simp only [List.map_toArray, List.map_cons, List.map_nil]); first | done | rfl | (simp only [List.length_drop, List.length_take]; rfl)) ?_; (with_reducible refine (octet_Cmp.calls (t171 ++ t169) (t171 ++ t170) t176 _ A24.out).mono ?_); rintro e w' ⟨rfl, ⟨nd, rfl⟩⟩; refine ⟨_, rfl, ?_⟩))
              go_ret
              exact ⟨by first | rfl | (simp [errW_none, errW_some] <;> rfl) | (simp [*, errW_none, errW_some] <;> rfl), by repeat (first | (with_reducible first | exact HB.out | apply below_alloc | apply pw_below_drewN | apply below_drew1) | exact HB.out)⟩
          · rw [if_neg c23] at H
            exact absurd H (by simp)
        · rw [if_neg c22] at H
          exact absurd H (by simp)

/-- THE ONE PURE STATEMENT of graftwoodlaw01_OctetOrder: yours. -/
def graftwoodlaw01_OctetOrder.Pure : Prop := ∀ (a0 : ByteArray) (a1 : ByteArray) (a2 : ByteArray), a0.size ≤ 140737488351232 → a1.size ≤ 140737488351232 → a2.size ≤ 140737488351232 → ∃ k, graftwoodlaw01_OctetOrder.f k a0 a1 a2 = some true
theorem graftwoodlaw01_OctetOrder.walk (P : graftwoodlaw01_OctetOrder.Pure) (a0 : ByteArray) (a1 : ByteArray) (a2 : ByteArray) (w : World) (w0 : a0.size ≤ 140737488351232) (w1 : a1.size ≤ 140737488351232) (w2 : a2.size ≤ 140737488351232) :
    Calls Tryd.prog 6 #[.string a0, .string a1, .string a2] w fun e w' => e = .returned (.bool true) ∧ Below w.heap.size w w' := by
  obtain ⟨k, h⟩ := P a0 a1 a2 w0 w1 w2
  refine (graftwoodlaw01_OctetOrder.calls k a0 a1 a2 true w h).mono ?_
  rintro e w' ⟨rfl, hd⟩
  exact ⟨rfl, hd⟩

end Go.Proofs.YtfhdbhocichpiaaDoor.P
