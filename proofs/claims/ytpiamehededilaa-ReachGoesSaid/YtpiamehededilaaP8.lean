-- Written by this project's own program (wip/tools/hp.py), driving the kit's print; hand texts among it. Not trusted: Lean checks it.
-- half the indentation
import Derived.Test.YtpiamehededilaaP0
import Derived.Test.YtpiamehededilaaP4
import Derived.Test.YtpiamehededilaaP5
namespace Go.Proofs.Ytpiamehededilaa.P
open Go.RowKit Go.Proofs.YtpiamehededilaaW.PrintWords Go.Proofs.YtpiamehededilaaW.PrintLast Go.Proofs.YtpiamehededilaaW.PrintMore
attribute [local go_sem] max2_int min2_int max_two min_two max_three min_three max_four min_four   -- for this text's walks alone
set_option linter.unusedVariables false
set_option linter.unusedSimpArgs false

-- HAND: api_Edge_54: with the text above

/-! ### edges_Drop: function 41 -/
def edges_Drop.f (k : Nat) (l0 : List (S36)) (a1 : Int) (a2 : Int) : Option ((List (S36)) × Int) := (edges_find.f k l0 a1 a2).bind fun bt146 => (if bt146.2.2.2 = 0 then (if bt146.2.2.1 = true then (if 0 ≤ bt146.2.1 then (if bt146.2.1 < (bt146.1.length : Int) then ((some (bt146.1.set (bt146.2.1 : Int).toNat (⟨(rd_T36 bt146.1 bt146.2.1).f0, (rd_T36 bt146.1 bt146.2.1).f1, wrap64 (((rd_T36 bt146.1 bt146.2.1).f2) - 1)⟩ : S36) : List (S36))).bind fun y153 => (if ((rd_T36 y153 bt146.2.1).f2) = 0 then ((api_Edge_54.f y153 bt146.2.1 (wrap64 (bt146.2.1 + 1))).bind fun t155 => (some (t155, 0))) else (some (y153, 0)))) else (none)) else (none)) else (some (([] : List (S36)), 2))) else (some (([] : List (S36)), bt146.2.2.2)))
theorem edges_Drop.mono : ∀ a0 a1 a2 k, LeO (edges_Drop.f k a0 a1 a2) (edges_Drop.f (k + 1) a0 a1 a2) := by
 intro a0 a1 a2 k
 unfold edges_Drop.f
 repeat' first
   | (with_reducible exact edges_find.mono _ _ _ _)
   | (with_reducible exact LeO.refl _)
   | (with_reducible exact LeO.none _)
   | (with_reducible refine LeO.ite ?_ ?_)
   | (with_reducible refine LeO.bind ?_ (fun _ => ?_))
   | exact edges_find.mono _ _ _ _
   | exact LeO.none _
   | refine LeO.ite ?_ ?_
   | refine LeO.bind ?_ (fun _ => ?_)
set_option maxHeartbeats 8000000 in
set_option maxRecDepth 100000 in
theorem edges_Drop.calls (k : Nat) (A0 : Option Addr) (c0 : Nat) (l0 : List (S36)) (a1 : Int) (a2 : Int) (r1 : List (S36)) (r2 : Int) (w : World) (hr0 : Kd.C k36 w A0 l0.length l0) (hc0 : l0.length ≤ c0) (h : edges_Drop.f k l0 a1 a2 = some (r1, r2)) :
  Calls Try.prog 41 #[.slice A0 l0.length c0, .int .i64 a1, .int .i64 a2] w fun e w' => ∃ v0_ : Value, e = .returned (.tuple #[v0_, .int .i64 r2]) ∧ Kd.R k36 36 w' w.heap.size (fun _ => True) v0_ r1 ∧ Below w.heap.size w w' := by
 have HR0 := Aside0.mk hr0
 have HC0 := Aside0.mk hc0
 clear hr0 hc0
 have HB := Aside0.mk (Below.refl w.heap.size w)
 have H : ((edges_find.f k l0 a1 a2).bind fun bt146 => (if bt146.2.2.2 = 0 then (if bt146.2.2.1 = true then (if 0 ≤ bt146.2.1 then (if bt146.2.1 < (bt146.1.length : Int) then ((some (bt146.1.set (bt146.2.1 : Int).toNat (⟨(rd_T36 bt146.1 bt146.2.1).f0, (rd_T36 bt146.1 bt146.2.1).f1, wrap64 (((rd_T36 bt146.1 bt146.2.1).f2) - 1)⟩ : S36) : List (S36))).bind fun y153 => (if ((rd_T36 y153 bt146.2.1).f2) = 0 then ((api_Edge_54.f y153 bt146.2.1 (wrap64 (bt146.2.1 + 1))).bind fun t155 => (some (t155, 0))) else (some (y153, 0)))) else (none)) else (none)) else (some (([] : List (S36)), 2))) else (some (([] : List (S36)), bt146.2.2.2)))) = some (r1, r2) := h
 clear h
 replace H := Option.bind_eq_some_iff.mp H
 obtain ⟨⟨t146, t147, t148, t149⟩, A40, H⟩ := H
 replace H : (if t149 = 0 then (if t148 = true then (if 0 ≤ t147 then (if t147 < (t146.length : Int) then ((some (t146.set (t147 : Int).toNat (⟨(rd_T36 t146 t147).f0, (rd_T36 t146 t147).f1, wrap64 (((rd_T36 t146 t147).f2) - 1)⟩ : S36) : List (S36))).bind fun y153 => (if ((rd_T36 y153 t147).f2) = 0 then ((api_Edge_54.f y153 t147 (wrap64 (t147 + 1))).bind fun t155 => (some (t155, 0))) else (some (y153, 0)))) else (none)) else (none)) else (some (([] : List (S36)), 2))) else (some (([] : List (S36)), t149))) = some (r1, r2) := H
 have A4 := Aside0.mk A40
 clear A40
 by_cases c5 : t149 = 0
 ·rw [if_pos c5] at H
  have c5b0 : (t149 == 0) = true := beq_iff_eq.mpr c5
  have c5b1 : (t149 != 0) = false := bne_eq_false_iff_eq.mpr c5
  clear c5
  by_cases c6 : t148 = true
  ·subst c6
   have H1 : (if 0 ≤ t147 then (if t147 < (t146.length : Int) then ((some (t146.set (t147 : Int).toNat (⟨(rd_T36 t146 t147).f0, (rd_T36 t146 t147).f1, wrap64 (((rd_T36 t146 t147).f2) - 1)⟩ : S36) : List (S36))).bind fun y153 => (if ((rd_T36 y153 t147).f2) = 0 then ((api_Edge_54.f y153 t147 (wrap64 (t147 + 1))).bind fun t155 => (some (t155, 0))) else (some (y153, 0)))) else (none)) else (none)) = some (r1, r2) := by rw [if_pos rfl] at H; exact H
   clear H
   have H := H1
   clear H1
   by_cases c7 : 0 ≤ t147
   ·rw [if_pos c7] at H
    have c7b0 : decide (0 ≤ t147) = true := decide_eq_true c7
    clear c7
    by_cases c8 : t147 < (t146.length : Int)
    ·rw [if_pos c8] at H
     have c8b0 : decide (t147 < (t146.length : Int)) = true := decide_eq_true c8
     clear c8
     obtain ⟨y153, hy153⟩ : ∃ y_ : List (S36), y_ = (t146.set (t147 : Int).toNat (⟨(rd_T36 t146 t147).f0, (rd_T36 t146 t147).f1, wrap64 (((rd_T36 t146 t147).f2) - 1)⟩ : S36)) := ⟨_, rfl⟩
     replace H : (if ((rd_T36 y153 t147).f2) = 0 then ((api_Edge_54.f y153 t147 (wrap64 (t147 + 1))).bind fun t155 => (some (t155, 0))) else (some (y153, 0))) = some (r1, r2) := by first | (rw [hy153]; with_reducible exact H) | (have H2_ := (Option.bind_some _ _).symm.trans H; rw [hy153]; with_reducible exact H2_) | (have H2_ := (Option.bind_some _ _).symm.trans H; with_reducible exact H2_) | with_reducible exact H | (rw [hy153]; exact H) | exact H
     have Ny153 := Aside0.mk hy153
     clear hy153
     by_cases c10 : ((rd_T36 y153 t147).f2) = 0
     ·rw [if_pos c10] at H
      have c10b0 : (((rd_T36 y153 t147).f2) == 0) = true := beq_iff_eq.mpr c10
      have c10b1 : (((rd_T36 y153 t147).f2) != 0) = false := bne_eq_false_iff_eq.mpr c10
      clear c10
      replace H := Option.bind_eq_some_iff.mp H
      obtain ⟨t155, A110, H⟩ := H
      replace H : (some (t155, 0)) = some (r1, r2) := H
      have A11 := Aside0.mk A110
      clear A110
      simp only [Option.some.injEq, Prod.mk.injEq] at H
      obtain ⟨rfl, rfl⟩ := H
      go_enter Try.func41, Try.ntmps41
      go_wp2_with (first | ((with_reducible refine gate_callee (f := 50) rfl ?_); refine goesL_ (some 15) rfl rfl Try.func50 (by kernel_rfl) rfl #[.slice A0 l0.length c0, .int .i64 a1, .int .i64 a2] rfl (by (try simp only [List.map_toArray, List.map_cons, List.map_nil]); first | done | rfl | (simp only [List.length_drop, List.length_take]; rfl)) ?_; (with_reducible refine (edges_find.calls k _ _ l0 a1 a2 t146 t147 true t149 _ ?side1 ?side2 A4.out).mono ?_); (case side1 => repeat (first | exact HR0.out | (with_reducible refine Kd.C_alloc ?_ _) | (with_reducible refine Kd.C_drewN ?_ _) | (with_reducible refine Kd.C_drew ?_))); (case side2 => exact HC0.out); rintro e w12 ⟨v150, rfl, ho0, hb⟩; refine ⟨_, rfl, ?_⟩; have n0_ := Aside0.mk (Kd.R_lower ho0 (below_size (by repeat (first | (with_reducible first | exact HB.out | apply below_alloc | apply pw_below_drewN | apply below_drew1) | exact HB.out)))); have n1_ := Aside0.mk (below_step (by repeat (first | (with_reducible first | exact HB.out | apply below_alloc | apply pw_below_drewN | apply below_drew1) | exact HB.out)) hb); clear HB; have HO151 := n0_; have HB := n1_; clear n0_ n1_; (try clear hb); (try clear hb2); (try clear hk); (try clear hi); (try clear ho0); obtain ⟨Ao13, co13, eo13⟩ := Kd.R_slice HO151.out; subst eo13; have p152 : 0 ≤ (t147 : Int) := of_decide_eq_true (by first | (with_reducible assumption) | assumption); have q152 : t147 < (t146.length : Int) := of_decide_eq_true (by first | (with_reducible assumption) | assumption); obtain ⟨ad152, e152, hx152_0, hx152_1, hx152_2⟩ := at_T36 (Kd.R_reads' HO151.out).2.2 t147 p152 q152; cases e152; replace p152 := eq_true p152; replace q152 := eq_true q152; have p9 : 0 ≤ (t147 : Int) := of_decide_eq_true (by first | (with_reducible assumption) | assumption); have q9 : (t147 : Int) < ((t146.length : Int) : Int) := of_decide_eq_true (by first | (with_reducible assumption) | assumption); obtain ⟨go9, co9, eo9, gb9, gl9, cl9, HG9⟩ := Kd.R_form HO151.out (by omega); (first | cases eo9 | (injection eo9 with ea_ en_ ec_; (first | subst ea_ | (injection ea_ with ea_; subst ea_)); subst ec_; clear en_)); have GB9 := Aside0.mk gb9; have GG9 := Aside0.mk HG9; clear gb9 gl9 HG9; (first | simp only [add_plain] at hx152_0 | skip); (first | simp only [add_plain] at hx152_1 | skip); (first | simp only [add_plain] at hx152_2 | skip); obtain ⟨ce9, hcl9, hM9, hcc9, hfr9⟩ := Kd.R_elem HO151.out z36 (t147 : Int) p9 q9; obtain rfl := k36_openM hM9; have hx9_0 : w12.cell? ⟨go9, (t147 : Int).toNat * 3, none⟩ = some (.int .i64 ((rd_T36 t146 t147).f0)) := hcc9 0 _ rfl; have hx9_1 : w12.cell? ⟨go9, (t147 : Int).toNat * 3 + 1, none⟩ = some (.int .i64 ((rd_T36 t146 t147).f1)) := hcc9 1 _ rfl; have hx9_2 : w12.cell? ⟨go9, (t147 : Int).toNat * 3 + 2, none⟩ = some (.int .i64 ((rd_T36 t146 t147).f2)) := hcc9 2 _ rfl; have hf9_0 : w12.frozen? ⟨go9, (t147 : Int).toNat * 3, none⟩ = false := hfr9 0; have hf9_1 : w12.frozen? ⟨go9, (t147 : Int).toNat * 3 + 1, none⟩ = false := hfr9 1; have hf9_2 : w12.frozen? ⟨go9, (t147 : Int).toNat * 3 + 2, none⟩ = false := hfr9 2; clear hcl9 hcc9 hfr9 hM9; replace p9 := eq_true p9; replace q9 := eq_true q9; have HX14 := Aside0.mk (show Kd.R k36 36 w12 w.heap.size (fun _ => True) (.slice (some ⟨go9, 0, none⟩) t146.length co13) t146 from (by (with_reducible repeat (first | apply Kd.R_alloc | apply Kd.R_drewN | apply Kd.R_drew)); exact HO151.out)); obtain ⟨ce14, hcl14, hM14, hcc14, hfr14⟩ := Kd.R_elem HX14.out z36 (t147 : Int) (of_decide_eq_true (by first | (with_reducible assumption) | assumption)) (by have h_ : (t147 : Int) < ((t146.length : Int) : Int) := of_decide_eq_true (by first | (with_reducible assumption) | assumption); first | exact h_ | (have e_ := (Kd.R_reads' HO151.out).1; omega) | simpa using h_); obtain rfl := k36_openM hM14; have HP14 := Kd.R_seg HX14.out (t147 : Int) (of_decide_eq_true (by first | (with_reducible assumption) | assumption)) (by have h_ : (t147 : Int) < ((t146.length : Int) : Int) := of_decide_eq_true (by first | (with_reducible assumption) | assumption); first | exact h_ | (have e_ := (Kd.R_reads' HO151.out).1; omega) | simpa using h_) (seg := [.int .i64 (wrap64 (((rd_T36 t146 t147).f2) - 1))]) (j := 2) hcl14 hcc14 (show 3 ≤ 3 from by decide) (x' := (⟨(rd_T36 t146 t147).f0, (rd_T36 t146 t147).f1, wrap64 (((rd_T36 t146 t147).f2) - 1)⟩ : S36)) (k36_mkM _ _ _ (⟨(rd_T36 t146 t147).f0, (rd_T36 t146 t147).f1, wrap64 (((rd_T36 t146 t147).f2) - 1)⟩ : S36) ) (fun _ hk => hk); have hx14_2 := hcc14 2 _ rfl; (try simp only [show (k36).sz = 3 from rfl, Nat.mul_one, Nat.add_zero] at hx14_2); have hf14_2 := hfr14 2; (try simp only [show (k36).sz = 3 from rfl, Nat.mul_one, Nat.add_zero] at hf14_2); clear hcl14 hcc14 hfr14 hM14) | ((with_reducible refine gate_store (t := 3) (p := 34) rfl ?_); refine store_event (t := 3) (p := 34) (v := ?vo_w15) (w1 := (w12.setCell ⟨go9, (t147 : Int).toNat * 3 + 2, none⟩ (.int .i64 (wrap64 (((rd_T36 t146 t147).f2) - 1))))) ?hg ?ho ?hn ?hr ?_; (case ho => rfl); (case hg => rfl); (case hn => rfl); (case hr => first | (go_simp; done) | (go_simp; rfl)); intro w15 hw; have hg : w12.grownBy w15 (some go9) := (by rw [hw]; exact HP14.2); have hp_ : Kd.R k36 36 w15 w.heap.size (fun _ => True) (.slice (some ⟨go9, 0, none⟩) t146.length co13) y153 := (by rw [hw, Ny153.out]; exact HP14.1); clear HP14; have n0_ := Aside0.mk (hp_); have n1_ := Aside0.mk ((by rw [hw]; exact below_set (HB.out) GB9.out : Below w.heap.size w w15)); clear HO151; clear HB; have HO151 := n0_; have HB := n1_; clear n0_ n1_; clear hg hw hp_; have p154 : 0 ≤ (t147 : Int) := of_decide_eq_true (by first | (with_reducible assumption) | assumption); have q154 : t147 < (y153.length : Int) := (by have h_ : (t147 : Int) < ((t146.length : Int) : Int) := of_decide_eq_true (by first | (with_reducible assumption) | assumption); first | (have e_ := (Kd.R_reads' HO151.out).1; omega) | simpa only [Ny153.out, List.length_set] using h_); have ql154 : ((t147 : Int) < ((t146.length : Int) : Int)) = True := eq_true (of_decide_eq_true (by first | (with_reducible assumption) | assumption)); obtain ⟨ad154, e154, hx154_0, hx154_1, hx154_2⟩ := at_T36 (Kd.R_reads' HO151.out).2.2 t147 p154 q154; obtain rfl : (⟨go9, 0, none⟩ : Addr) = ad154 := (by injection e154); (first | simp only [add_plain] at hx154_0 | simp only [add_at] at hx154_0 | simp only [Addr.add, Nat.zero_add] at hx154_0 | skip); (first | simp only [add_plain] at hx154_1 | simp only [add_at] at hx154_1 | simp only [Addr.add, Nat.zero_add] at hx154_1 | skip); (first | simp only [add_plain] at hx154_2 | simp only [add_at] at hx154_2 | simp only [Addr.add, Nat.zero_add] at hx154_2 | skip); replace p154 := eq_true p154; replace q154 := eq_true q154) | ((with_reducible refine gate_callee (f := 54) rfl ?_); refine goesL_ (some 45) rfl rfl Try.func54 (by kernel_rfl) rfl #[.slice (some ⟨go9, 0, none⟩) t146.length co13, .int .i64 t147, .int .i64 (wrap64 (t147 + 1))] rfl (by (try simp only [List.map_toArray, List.map_cons, List.map_nil]); first | done | rfl | (simp only [List.length_drop, List.length_take]; rfl)) ?_; (with_reducible refine (api_Edge_54.calls (fun k_ => some k_ = (.slice (some ⟨go9, 0, none⟩) t146.length co13 : Value).ownBlock) (.slice (some ⟨go9, 0, none⟩) t146.length co13) y153 t147 (wrap64 (t147 + 1)) t155 w _ ?side1 ?side2 A11.out).mono ?_); (case side1 => repeat (first | (with_reducible first | exact HB.out | apply below_alloc | apply pw_below_drewN | apply below_drew1) | exact HB.out)); (case side2 => exact Kd.R_tight rfl HO151.out); rintro e w16 ⟨v156, rfl, ho0, hb, hkp⟩; refine ⟨_, rfl, ?_⟩; have n0_ := Aside0.mk (Kd.R_mono (ok' := fun k_ => True) ho0 (fun k_ hk_ => trivial)); have n1_ := Aside0.mk (hb); clear HB; clear HO151; have HO157 := n0_; have HB := n1_; clear n0_ n1_; (try clear hb); (try clear hkp); (try clear ho0)))
      go_ret2
      exact ⟨_, by first | rfl | (simp [errW_none, errW_some] <;> rfl) | (simp [*, errW_none, errW_some] <;> rfl), by (with_reducible repeat (first | apply Kd.R_alloc | apply Kd.R_drewN | apply Kd.R_drew)); exact HO157.out, by repeat (first | (with_reducible first | exact HB.out | apply below_alloc | apply pw_below_drewN | apply below_drew1) | exact HB.out)⟩
     ·rw [if_neg c10] at H
      have c10b0 : (((rd_T36 y153 t147).f2) == 0) = false := beq_eq_false_iff_ne.mpr c10
      have c10b1 : (((rd_T36 y153 t147).f2) != 0) = true := bne_iff_ne.mpr c10
      simp only [Option.some.injEq, Prod.mk.injEq] at H
      obtain ⟨rfl, rfl⟩ := H
      go_enter Try.func41, Try.ntmps41
      go_wp2_with (first | ((with_reducible refine gate_callee (f := 50) rfl ?_); refine goesL_ (some 15) rfl rfl Try.func50 (by kernel_rfl) rfl #[.slice A0 l0.length c0, .int .i64 a1, .int .i64 a2] rfl (by (try simp only [List.map_toArray, List.map_cons, List.map_nil]); first | done | rfl | (simp only [List.length_drop, List.length_take]; rfl)) ?_; (with_reducible refine (edges_find.calls k _ _ l0 a1 a2 t146 t147 true t149 _ ?side1 ?side2 A4.out).mono ?_); (case side1 => repeat (first | exact HR0.out | (with_reducible refine Kd.C_alloc ?_ _) | (with_reducible refine Kd.C_drewN ?_ _) | (with_reducible refine Kd.C_drew ?_))); (case side2 => exact HC0.out); rintro e w17 ⟨v150, rfl, ho0, hb⟩; refine ⟨_, rfl, ?_⟩; have n0_ := Aside0.mk (Kd.R_lower ho0 (below_size (by repeat (first | (with_reducible first | exact HB.out | apply below_alloc | apply pw_below_drewN | apply below_drew1) | exact HB.out)))); have n1_ := Aside0.mk (below_step (by repeat (first | (with_reducible first | exact HB.out | apply below_alloc | apply pw_below_drewN | apply below_drew1) | exact HB.out)) hb); clear HB; have HO151 := n0_; have HB := n1_; clear n0_ n1_; (try clear hb); (try clear hb2); (try clear hk); (try clear hi); (try clear ho0); obtain ⟨Ao18, co18, eo18⟩ := Kd.R_slice HO151.out; subst eo18; have p152 : 0 ≤ (t147 : Int) := of_decide_eq_true (by first | (with_reducible assumption) | assumption); have q152 : t147 < (t146.length : Int) := of_decide_eq_true (by first | (with_reducible assumption) | assumption); obtain ⟨ad152, e152, hx152_0, hx152_1, hx152_2⟩ := at_T36 (Kd.R_reads' HO151.out).2.2 t147 p152 q152; cases e152; replace p152 := eq_true p152; replace q152 := eq_true q152; have p9 : 0 ≤ (t147 : Int) := of_decide_eq_true (by first | (with_reducible assumption) | assumption); have q9 : (t147 : Int) < ((t146.length : Int) : Int) := of_decide_eq_true (by first | (with_reducible assumption) | assumption); obtain ⟨go9, co9, eo9, gb9, gl9, cl9, HG9⟩ := Kd.R_form HO151.out (by omega); (first | cases eo9 | (injection eo9 with ea_ en_ ec_; (first | subst ea_ | (injection ea_ with ea_; subst ea_)); subst ec_; clear en_)); have GB9 := Aside0.mk gb9; have GG9 := Aside0.mk HG9; clear gb9 gl9 HG9; (first | simp only [add_plain] at hx152_0 | skip); (first | simp only [add_plain] at hx152_1 | skip); (first | simp only [add_plain] at hx152_2 | skip); obtain ⟨ce9, hcl9, hM9, hcc9, hfr9⟩ := Kd.R_elem HO151.out z36 (t147 : Int) p9 q9; obtain rfl := k36_openM hM9; have hx9_0 : w17.cell? ⟨go9, (t147 : Int).toNat * 3, none⟩ = some (.int .i64 ((rd_T36 t146 t147).f0)) := hcc9 0 _ rfl; have hx9_1 : w17.cell? ⟨go9, (t147 : Int).toNat * 3 + 1, none⟩ = some (.int .i64 ((rd_T36 t146 t147).f1)) := hcc9 1 _ rfl; have hx9_2 : w17.cell? ⟨go9, (t147 : Int).toNat * 3 + 2, none⟩ = some (.int .i64 ((rd_T36 t146 t147).f2)) := hcc9 2 _ rfl; have hf9_0 : w17.frozen? ⟨go9, (t147 : Int).toNat * 3, none⟩ = false := hfr9 0; have hf9_1 : w17.frozen? ⟨go9, (t147 : Int).toNat * 3 + 1, none⟩ = false := hfr9 1; have hf9_2 : w17.frozen? ⟨go9, (t147 : Int).toNat * 3 + 2, none⟩ = false := hfr9 2; clear hcl9 hcc9 hfr9 hM9; replace p9 := eq_true p9; replace q9 := eq_true q9; have HX19 := Aside0.mk (show Kd.R k36 36 w17 w.heap.size (fun _ => True) (.slice (some ⟨go9, 0, none⟩) t146.length co18) t146 from (by (with_reducible repeat (first | apply Kd.R_alloc | apply Kd.R_drewN | apply Kd.R_drew)); exact HO151.out)); obtain ⟨ce19, hcl19, hM19, hcc19, hfr19⟩ := Kd.R_elem HX19.out z36 (t147 : Int) (of_decide_eq_true (by first | (with_reducible assumption) | assumption)) (by have h_ : (t147 : Int) < ((t146.length : Int) : Int) := of_decide_eq_true (by first | (with_reducible assumption) | assumption); first | exact h_ | (have e_ := (Kd.R_reads' HO151.out).1; omega) | simpa using h_); obtain rfl := k36_openM hM19; have HP19 := Kd.R_seg HX19.out (t147 : Int) (of_decide_eq_true (by first | (with_reducible assumption) | assumption)) (by have h_ : (t147 : Int) < ((t146.length : Int) : Int) := of_decide_eq_true (by first | (with_reducible assumption) | assumption); first | exact h_ | (have e_ := (Kd.R_reads' HO151.out).1; omega) | simpa using h_) (seg := [.int .i64 (wrap64 (((rd_T36 t146 t147).f2) - 1))]) (j := 2) hcl19 hcc19 (show 3 ≤ 3 from by decide) (x' := (⟨(rd_T36 t146 t147).f0, (rd_T36 t146 t147).f1, wrap64 (((rd_T36 t146 t147).f2) - 1)⟩ : S36)) (k36_mkM _ _ _ (⟨(rd_T36 t146 t147).f0, (rd_T36 t146 t147).f1, wrap64 (((rd_T36 t146 t147).f2) - 1)⟩ : S36) ) (fun _ hk => hk); have hx19_2 := hcc19 2 _ rfl; (try simp only [show (k36).sz = 3 from rfl, Nat.mul_one, Nat.add_zero] at hx19_2); have hf19_2 := hfr19 2; (try simp only [show (k36).sz = 3 from rfl, Nat.mul_one, Nat.add_zero] at hf19_2); clear hcl19 hcc19 hfr19 hM19) | ((with_reducible refine gate_store (t := 3) (p := 34) rfl ?_); refine store_event (t := 3) (p := 34) (v := ?vo_w20) (w1 := (w17.setCell ⟨go9, (t147 : Int).toNat * 3 + 2, none⟩ (.int .i64 (wrap64 (((rd_T36 t146 t147).f2) - 1))))) ?hg ?ho ?hn ?hr ?_; (case ho => rfl); (case hg => rfl); (case hn => rfl); (case hr => first | (go_simp; done) | (go_simp; rfl)); intro w20 hw; have hg : w17.grownBy w20 (some go9) := (by rw [hw]; exact HP19.2); have hp_ : Kd.R k36 36 w20 w.heap.size (fun _ => True) (.slice (some ⟨go9, 0, none⟩) t146.length co18) y153 := (by rw [hw, Ny153.out]; exact HP19.1); clear HP19; have n0_ := Aside0.mk (hp_); have n1_ := Aside0.mk ((by rw [hw]; exact below_set (HB.out) GB9.out : Below w.heap.size w w20)); clear HO151; clear HB; have HO151 := n0_; have HB := n1_; clear n0_ n1_; clear hg hw hp_; have p154 : 0 ≤ (t147 : Int) := of_decide_eq_true (by first | (with_reducible assumption) | assumption); have q154 : t147 < (y153.length : Int) := (by have h_ : (t147 : Int) < ((t146.length : Int) : Int) := of_decide_eq_true (by first | (with_reducible assumption) | assumption); first | (have e_ := (Kd.R_reads' HO151.out).1; omega) | simpa only [Ny153.out, List.length_set] using h_); have ql154 : ((t147 : Int) < ((t146.length : Int) : Int)) = True := eq_true (of_decide_eq_true (by first | (with_reducible assumption) | assumption)); obtain ⟨ad154, e154, hx154_0, hx154_1, hx154_2⟩ := at_T36 (Kd.R_reads' HO151.out).2.2 t147 p154 q154; obtain rfl : (⟨go9, 0, none⟩ : Addr) = ad154 := (by injection e154); (first | simp only [add_plain] at hx154_0 | simp only [add_at] at hx154_0 | simp only [Addr.add, Nat.zero_add] at hx154_0 | skip); (first | simp only [add_plain] at hx154_1 | simp only [add_at] at hx154_1 | simp only [Addr.add, Nat.zero_add] at hx154_1 | skip); (first | simp only [add_plain] at hx154_2 | simp only [add_at] at hx154_2 | simp only [Addr.add, Nat.zero_add] at hx154_2 | skip); replace p154 := eq_true p154; replace q154 := eq_true q154))
      go_ret2
      exact ⟨_, by first | rfl | (simp [errW_none, errW_some] <;> rfl) | (simp [*, errW_none, errW_some] <;> rfl), by (with_reducible repeat (first | apply Kd.R_alloc | apply Kd.R_drewN | apply Kd.R_drew)); exact HO151.out, by repeat (first | (with_reducible first | exact HB.out | apply below_alloc | apply pw_below_drewN | apply below_drew1) | exact HB.out)⟩
    ·rw [if_neg c8] at H
     exact absurd H (by simp)
   ·rw [if_neg c7] at H
    exact absurd H (by simp)
  ·replace c6 := Bool.eq_false_iff.mpr c6
   subst c6
   have H1 : (some (([] : List (S36)), 2)) = some (r1, r2) := by rw [if_neg (show ¬ (false = true) by decide)] at H; exact H
   clear H
   have H := H1
   clear H1
   simp only [Option.some.injEq, Prod.mk.injEq] at H
   obtain ⟨rfl, rfl⟩ := H
   go_enter Try.func41, Try.ntmps41
   go_wp2_with (first | ((with_reducible refine gate_callee (f := 50) rfl ?_); refine goesL_ (some 15) rfl rfl Try.func50 (by kernel_rfl) rfl #[.slice A0 l0.length c0, .int .i64 a1, .int .i64 a2] rfl (by (try simp only [List.map_toArray, List.map_cons, List.map_nil]); first | done | rfl | (simp only [List.length_drop, List.length_take]; rfl)) ?_; (with_reducible refine (edges_find.calls k _ _ l0 a1 a2 t146 t147 false t149 _ ?side1 ?side2 A4.out).mono ?_); (case side1 => repeat (first | exact HR0.out | (with_reducible refine Kd.C_alloc ?_ _) | (with_reducible refine Kd.C_drewN ?_ _) | (with_reducible refine Kd.C_drew ?_))); (case side2 => exact HC0.out); rintro e w21 ⟨v150, rfl, ho0, hb⟩; refine ⟨_, rfl, ?_⟩; have n0_ := Aside0.mk (Kd.R_lower ho0 (below_size (by repeat (first | (with_reducible first | exact HB.out | apply below_alloc | apply pw_below_drewN | apply below_drew1) | exact HB.out)))); have n1_ := Aside0.mk (below_step (by repeat (first | (with_reducible first | exact HB.out | apply below_alloc | apply pw_below_drewN | apply below_drew1) | exact HB.out)) hb); clear HB; have HO151 := n0_; have HB := n1_; clear n0_ n1_; (try clear hb); (try clear hb2); (try clear hk); (try clear hi); (try clear ho0)))
   go_ret2
   exact ⟨_, by first | rfl | (simp [errW_none, errW_some] <;> rfl) | (simp [*, errW_none, errW_some] <;> rfl), by first | exact Kd.R_nil _ _ _ _ _ | exact Kd.N_nil _ _ _ _ _ | exact Kd.V_nil _ _ _ _ _ | exact Kd.Q_nil _ _ _ _ _ | exact Kd.S_nil _ _ _ _ _, by repeat (first | (with_reducible first | exact HB.out | apply below_alloc | apply pw_below_drewN | apply below_drew1) | exact HB.out)⟩
 ·rw [if_neg c5] at H
  have c5b0 : (t149 == 0) = false := beq_eq_false_iff_ne.mpr c5
  have c5b1 : (t149 != 0) = true := bne_iff_ne.mpr c5
  simp only [Option.some.injEq, Prod.mk.injEq] at H
  obtain ⟨rfl, rfl⟩ := H
  go_enter Try.func41, Try.ntmps41
  go_wp2_with (first | ((with_reducible refine gate_callee (f := 50) rfl ?_); refine goesL_ (some 15) rfl rfl Try.func50 (by kernel_rfl) rfl #[.slice A0 l0.length c0, .int .i64 a1, .int .i64 a2] rfl (by (try simp only [List.map_toArray, List.map_cons, List.map_nil]); first | done | rfl | (simp only [List.length_drop, List.length_take]; rfl)) ?_; (with_reducible refine (edges_find.calls k _ _ l0 a1 a2 t146 t147 t148 t149 _ ?side1 ?side2 A4.out).mono ?_); (case side1 => repeat (first | exact HR0.out | (with_reducible refine Kd.C_alloc ?_ _) | (with_reducible refine Kd.C_drewN ?_ _) | (with_reducible refine Kd.C_drew ?_))); (case side2 => exact HC0.out); rintro e w22 ⟨v150, rfl, ho0, hb⟩; refine ⟨_, rfl, ?_⟩; have n0_ := Aside0.mk (Kd.R_lower ho0 (below_size (by repeat (first | (with_reducible first | exact HB.out | apply below_alloc | apply pw_below_drewN | apply below_drew1) | exact HB.out)))); have n1_ := Aside0.mk (below_step (by repeat (first | (with_reducible first | exact HB.out | apply below_alloc | apply pw_below_drewN | apply below_drew1) | exact HB.out)) hb); clear HB; have HO151 := n0_; have HB := n1_; clear n0_ n1_; (try clear hb); (try clear hb2); (try clear hk); (try clear hi); (try clear ho0)))
  go_ret2
  exact ⟨_, by first | rfl | (simp [errW_none, errW_some] <;> rfl) | (simp [*, errW_none, errW_some] <;> rfl), by first | exact Kd.R_nil _ _ _ _ _ | exact Kd.N_nil _ _ _ _ _ | exact Kd.V_nil _ _ _ _ _ | exact Kd.Q_nil _ _ _ _ _ | exact Kd.S_nil _ _ _ _ _, by repeat (first | (with_reducible first | exact HB.out | apply below_alloc | apply pw_below_drewN | apply below_drew1) | exact HB.out)⟩

/-! ### edges_Many: function 42 -/
def edges_Many.f (k : Nat) (l0 : List (S36)) (a1 : Int) (a2 : Int) : Option (Int × Int) := (edges_find.f k l0 a1 a2).bind fun bt158 => (if bt158.2.2.2 = 0 then (if bt158.2.2.1 = true then (if 0 ≤ bt158.2.1 then (if bt158.2.1 < (bt158.1.length : Int) then (some ((rd_T36 bt158.1 bt158.2.1).f2, 0)) else (none)) else (none)) else (some (0, bt158.2.2.2))) else (some (0, bt158.2.2.2)))
theorem edges_Many.mono : ∀ a0 a1 a2 k, LeO (edges_Many.f k a0 a1 a2) (edges_Many.f (k + 1) a0 a1 a2) := by
 intro a0 a1 a2 k
 unfold edges_Many.f
 repeat' first
   | (with_reducible exact edges_find.mono _ _ _ _)
   | (with_reducible exact LeO.refl _)
   | (with_reducible exact LeO.none _)
   | (with_reducible refine LeO.ite ?_ ?_)
   | (with_reducible refine LeO.bind ?_ (fun _ => ?_))
   | exact edges_find.mono _ _ _ _
   | exact LeO.none _
   | refine LeO.ite ?_ ?_
   | refine LeO.bind ?_ (fun _ => ?_)
set_option maxHeartbeats 8000000 in
set_option maxRecDepth 100000 in
theorem edges_Many.calls (k : Nat) (A0 : Option Addr) (c0 : Nat) (l0 : List (S36)) (a1 : Int) (a2 : Int) (r1 : Int) (r2 : Int) (w : World) (hr0 : Kd.C k36 w A0 l0.length l0) (hc0 : l0.length ≤ c0) (h : edges_Many.f k l0 a1 a2 = some (r1, r2)) :
  Calls Try.prog 42 #[.slice A0 l0.length c0, .int .i64 a1, .int .i64 a2] w fun e w' => e = .returned (.tuple #[.int .i64 r1, .int .i64 r2]) ∧ Below w.heap.size w w' := by
 have HR0 := Aside0.mk hr0
 have HC0 := Aside0.mk hc0
 clear hr0 hc0
 have HB := Aside0.mk (Below.refl w.heap.size w)
 have H : ((edges_find.f k l0 a1 a2).bind fun bt158 => (if bt158.2.2.2 = 0 then (if bt158.2.2.1 = true then (if 0 ≤ bt158.2.1 then (if bt158.2.1 < (bt158.1.length : Int) then (some ((rd_T36 bt158.1 bt158.2.1).f2, 0)) else (none)) else (none)) else (some (0, bt158.2.2.2))) else (some (0, bt158.2.2.2)))) = some (r1, r2) := h
 clear h
 replace H := Option.bind_eq_some_iff.mp H
 obtain ⟨⟨t158, t159, t160, t161⟩, A40, H⟩ := H
 replace H : (if t161 = 0 then (if t160 = true then (if 0 ≤ t159 then (if t159 < (t158.length : Int) then (some ((rd_T36 t158 t159).f2, 0)) else (none)) else (none)) else (some (0, t161))) else (some (0, t161))) = some (r1, r2) := H
 have A4 := Aside0.mk A40
 clear A40
 by_cases c5 : t161 = 0
 ·rw [if_pos c5] at H
  have c5b0 : (t161 == 0) = true := beq_iff_eq.mpr c5
  have c5b1 : (t161 != 0) = false := bne_eq_false_iff_eq.mpr c5
  clear c5
  by_cases c6 : t160 = true
  ·subst c6
   have H1 : (if 0 ≤ t159 then (if t159 < (t158.length : Int) then (some ((rd_T36 t158 t159).f2, 0)) else (none)) else (none)) = some (r1, r2) := by rw [if_pos rfl] at H; exact H
   clear H
   have H := H1
   clear H1
   by_cases c7 : 0 ≤ t159
   ·rw [if_pos c7] at H
    have c7b0 : decide (0 ≤ t159) = true := decide_eq_true c7
    clear c7
    by_cases c8 : t159 < (t158.length : Int)
    ·rw [if_pos c8] at H
     have c8b0 : decide (t159 < (t158.length : Int)) = true := decide_eq_true c8
     clear c8
     simp only [Option.some.injEq, Prod.mk.injEq] at H
     obtain ⟨rfl, rfl⟩ := H
     go_enter Try.func42, Try.ntmps42
     go_wp2_with (first | ((with_reducible refine gate_callee (f := 50) rfl ?_); refine goesL_ (some 15) rfl rfl Try.func50 (by kernel_rfl) rfl #[.slice A0 l0.length c0, .int .i64 a1, .int .i64 a2] rfl (by (try simp only [List.map_toArray, List.map_cons, List.map_nil]); first | done | rfl | (simp only [List.length_drop, List.length_take]; rfl)) ?_; (with_reducible refine (edges_find.calls k _ _ l0 a1 a2 t158 t159 true t161 _ ?side1 ?side2 A4.out).mono ?_); (case side1 => repeat (first | exact HR0.out | (with_reducible refine Kd.C_alloc ?_ _) | (with_reducible refine Kd.C_drewN ?_ _) | (with_reducible refine Kd.C_drew ?_))); (case side2 => exact HC0.out); rintro e w9 ⟨v162, rfl, ho0, hb⟩; refine ⟨_, rfl, ?_⟩; have n0_ := Aside0.mk (Kd.R_lower ho0 (below_size (by repeat (first | (with_reducible first | exact HB.out | apply below_alloc | apply pw_below_drewN | apply below_drew1) | exact HB.out)))); have n1_ := Aside0.mk (below_step (by repeat (first | (with_reducible first | exact HB.out | apply below_alloc | apply pw_below_drewN | apply below_drew1) | exact HB.out)) hb); clear HB; have HO163 := n0_; have HB := n1_; clear n0_ n1_; (try clear hb); (try clear hb2); (try clear hk); (try clear hi); (try clear ho0); obtain ⟨Ao10, co10, eo10⟩ := Kd.R_slice HO163.out; subst eo10; have p164 : 0 ≤ (t159 : Int) := of_decide_eq_true (by first | (with_reducible assumption) | assumption); have q164 : t159 < (t158.length : Int) := of_decide_eq_true (by first | (with_reducible assumption) | assumption); obtain ⟨ad164, e164, hx164_0, hx164_1, hx164_2⟩ := at_T36 (Kd.R_reads' HO163.out).2.2 t159 p164 q164; cases e164; replace p164 := eq_true p164; replace q164 := eq_true q164))
     go_ret2
     exact ⟨by first | rfl | (simp [errW_none, errW_some] <;> rfl) | (simp [*, errW_none, errW_some] <;> rfl), by repeat (first | (with_reducible first | exact HB.out | apply below_alloc | apply pw_below_drewN | apply below_drew1) | exact HB.out)⟩
    ·rw [if_neg c8] at H
     exact absurd H (by simp)
   ·rw [if_neg c7] at H
    exact absurd H (by simp)
  ·replace c6 := Bool.eq_false_iff.mpr c6
   subst c6
   have H1 : (some (0, t161)) = some (r1, r2) := by rw [if_neg (show ¬ (false = true) by decide)] at H; exact H
   clear H
   have H := H1
   clear H1
   simp only [Option.some.injEq, Prod.mk.injEq] at H
   obtain ⟨rfl, rfl⟩ := H
   go_enter Try.func42, Try.ntmps42
   go_wp2_with (first | ((with_reducible refine gate_callee (f := 50) rfl ?_); refine goesL_ (some 15) rfl rfl Try.func50 (by kernel_rfl) rfl #[.slice A0 l0.length c0, .int .i64 a1, .int .i64 a2] rfl (by (try simp only [List.map_toArray, List.map_cons, List.map_nil]); first | done | rfl | (simp only [List.length_drop, List.length_take]; rfl)) ?_; (with_reducible refine (edges_find.calls k _ _ l0 a1 a2 t158 t159 false t161 _ ?side1 ?side2 A4.out).mono ?_); (case side1 => repeat (first | exact HR0.out | (with_reducible refine Kd.C_alloc ?_ _) | (with_reducible refine Kd.C_drewN ?_ _) | (with_reducible refine Kd.C_drew ?_))); (case side2 => exact HC0.out); rintro e w11 ⟨v162, rfl, ho0, hb⟩; refine ⟨_, rfl, ?_⟩; have n0_ := Aside0.mk (Kd.R_lower ho0 (below_size (by repeat (first | (with_reducible first | exact HB.out | apply below_alloc | apply pw_below_drewN | apply below_drew1) | exact HB.out)))); have n1_ := Aside0.mk (below_step (by repeat (first | (with_reducible first | exact HB.out | apply below_alloc | apply pw_below_drewN | apply below_drew1) | exact HB.out)) hb); clear HB; have HO163 := n0_; have HB := n1_; clear n0_ n1_; (try clear hb); (try clear hb2); (try clear hk); (try clear hi); (try clear ho0)))
   go_ret2
   exact ⟨by first | rfl | (simp [errW_none, errW_some] <;> rfl) | (simp [*, errW_none, errW_some] <;> rfl), by repeat (first | (with_reducible first | exact HB.out | apply below_alloc | apply pw_below_drewN | apply below_drew1) | exact HB.out)⟩
 ·rw [if_neg c5] at H
  have c5b0 : (t161 == 0) = false := beq_eq_false_iff_ne.mpr c5
  have c5b1 : (t161 != 0) = true := bne_iff_ne.mpr c5
  simp only [Option.some.injEq, Prod.mk.injEq] at H
  obtain ⟨rfl, rfl⟩ := H
  go_enter Try.func42, Try.ntmps42
  go_wp2_with (first | ((with_reducible refine gate_callee (f := 50) rfl ?_); refine goesL_ (some 15) rfl rfl Try.func50 (by kernel_rfl) rfl #[.slice A0 l0.length c0, .int .i64 a1, .int .i64 a2] rfl (by (try simp only [List.map_toArray, List.map_cons, List.map_nil]); first | done | rfl | (simp only [List.length_drop, List.length_take]; rfl)) ?_; (with_reducible refine (edges_find.calls k _ _ l0 a1 a2 t158 t159 t160 t161 _ ?side1 ?side2 A4.out).mono ?_); (case side1 => repeat (first | exact HR0.out | (with_reducible refine Kd.C_alloc ?_ _) | (with_reducible refine Kd.C_drewN ?_ _) | (with_reducible refine Kd.C_drew ?_))); (case side2 => exact HC0.out); rintro e w12 ⟨v162, rfl, ho0, hb⟩; refine ⟨_, rfl, ?_⟩; have n0_ := Aside0.mk (Kd.R_lower ho0 (below_size (by repeat (first | (with_reducible first | exact HB.out | apply below_alloc | apply pw_below_drewN | apply below_drew1) | exact HB.out)))); have n1_ := Aside0.mk (below_step (by repeat (first | (with_reducible first | exact HB.out | apply below_alloc | apply pw_below_drewN | apply below_drew1) | exact HB.out)) hb); clear HB; have HO163 := n0_; have HB := n1_; clear n0_ n1_; (try clear hb); (try clear hb2); (try clear hk); (try clear hi); (try clear ho0)))
  go_ret2
  exact ⟨by first | rfl | (simp [errW_none, errW_some] <;> rfl) | (simp [*, errW_none, errW_some] <;> rfl), by repeat (first | (with_reducible first | exact HB.out | apply below_alloc | apply pw_below_drewN | apply below_drew1) | exact HB.out)⟩

/-! ### slices_Equal_int_int: function 48 -/
def slices_Equal_int_int.l0 : Nat → List Int → List Int → Int → Int → Option (Bool)
 | 0, _, _, _, _ => none
 | k + 1, x0, x1, x12, x13 => if x13 < x12 then (if 0 ≤ x13 then (if x13 < (x0.length : Int) then (if x13 < (x1.length : Int) then (if (rd x0 x13) = (rd x1 x13) then (slices_Equal_int_int.l0 k x0 x1 x12 (wrap64 (x13 + 1))) else (some false)) else (none)) else (none)) else (none)) else (some true)
def slices_Equal_int_int.f (k : Nat) (l0 : List Int) (l1 : List Int) : Option (Bool) := if (l0.length : Int) = (l1.length : Int) then (slices_Equal_int_int.l0 k l0 l1 (l0.length : Int) 0) else (some false)
theorem slices_Equal_int_int.mono_l : ∀ k, (∀ y0 y1 y2 y3, LeO (slices_Equal_int_int.l0 k y0 y1 y2 y3) (slices_Equal_int_int.l0 (k + 1) y0 y1 y2 y3))
 | 0 => fun _ _ _ _ r h => by simp [slices_Equal_int_int.l0] at h
 | k + 1 => by
  have ih0 := slices_Equal_int_int.mono_l k
  ·intro y0 y1 y2 y3
   unfold slices_Equal_int_int.l0
   repeat' first
   | (with_reducible exact ih0 _ _ _ _)
   | (with_reducible exact LeO.refl _)
   | (with_reducible exact LeO.none _)
   | (with_reducible refine LeO.ite ?_ ?_)
   | (with_reducible refine LeO.bind ?_ (fun _ => ?_))
   | exact ih0 _ _ _ _
   | exact LeO.none _
   | refine LeO.ite ?_ ?_
   | refine LeO.bind ?_ (fun _ => ?_)
theorem slices_Equal_int_int.mono : ∀ a0 a1 k, LeO (slices_Equal_int_int.f k a0 a1) (slices_Equal_int_int.f (k + 1) a0 a1) := by
 intro a0 a1 k
 have ih0 := slices_Equal_int_int.mono_l k
 unfold slices_Equal_int_int.f
 repeat' first
   | (with_reducible exact ih0 _ _ _ _)
   | (with_reducible exact LeO.refl _)
   | (with_reducible exact LeO.none _)
   | (with_reducible refine LeO.ite ?_ ?_)
   | (with_reducible refine LeO.bind ?_ (fun _ => ?_))
   | exact ih0 _ _ _ _
   | exact LeO.none _
   | refine LeO.ite ?_ ?_
   | refine LeO.bind ?_ (fun _ => ?_)
set_option maxHeartbeats 8000000 in
set_option maxRecDepth 100000 in
theorem slices_Equal_int_int.calls (k : Nat) (A0 : Option Addr) (c0 : Nat) (l0 : List Int) (A1 : Option Addr) (c1 : Nat) (l1 : List Int) (r : Bool) (w : World) (hr0 : Kd.C (Kd.int .i64) w A0 l0.length l0) (hc0 : l0.length ≤ c0) (hr1 : Kd.C (Kd.int .i64) w A1 l1.length l1) (hc1 : l1.length ≤ c1) (h : slices_Equal_int_int.f k l0 l1 = some r) :
  Calls Try.prog 48 #[.slice A0 l0.length c0, .slice A1 l1.length c1] w fun e w' => e = .returned (.bool r) ∧ Drawn0 w w' := by
 have HR0 := Aside0.mk hr0
 have HC0 := Aside0.mk hc0
 clear hr0 hc0
 have HR1 := Aside0.mk hr1
 have HC1 := Aside0.mk hc1
 clear hr1 hc1
 have H : (if (l0.length : Int) = (l1.length : Int) then (slices_Equal_int_int.l0 k l0 l1 (l0.length : Int) 0) else (some false)) = some r := h
 clear h
 by_cases c3 : (l0.length : Int) = (l1.length : Int)
 ·rw [if_pos c3] at H
  have c3b0 : ((l0.length : Int) == (l1.length : Int)) = true := beq_iff_eq.mpr c3
  have c3b1 : ((l0.length : Int) != (l1.length : Int)) = false := bne_eq_false_iff_eq.mpr c3
  have c3b2 : (l0.length == l1.length) = true := by first | simpa using c3 | (simp at c3 ⊢; omega)
  clear c3
  have H' := Aside0.mk H
  clear H
  go_enter Try.func48, Try.ntmps48
  go_wp2
  repeat (go_quiet (fail); try go_wp2)
  go_loopg [13] k (fun kq v13 w' => ∃ (x13_1 : Int), v13 = .int .i64 x13_1 ∧ Aside0 (slices_Equal_int_int.l0 kq l0 l1 (l0.length : Int) x13_1 = some r) ∧ Aside0 (kq ≤ k) ∧ Drawn0 w w')
  case atStart => exact ⟨(0), (by first | rfl | (simp; done) | (simp [*]; done)), H', ⟨Nat.le_refl _⟩, by repeat (first | exact Drawn0.refl _ | apply Drawn0.step)⟩
  case round =>
   clear H'
   try clear c1
   try clear p2
   try clear c3
   try clear c3b0
   try clear c3b1
   try clear c3b2
   obtain ⟨x13_1, rfl, HA, HK1, ⟨m1, rfl⟩⟩ := hrel
   cases gk with
   | zero => exact absurd HA.out (by simp [slices_Equal_int_int.l0])
   | succ k1 =>
    have H := HA.out
    clear HA
    simp only [slices_Equal_int_int.l0] at H
    by_cases c4 : x13_1 < (l0.length : Int)
    ·rw [if_pos c4] at H
     have c4b0 : decide (x13_1 < (l0.length : Int)) = true := decide_eq_true c4
     clear c4
     by_cases c5 : 0 ≤ x13_1
     ·rw [if_pos c5] at H
      have c5b0 : decide (0 ≤ x13_1) = true := decide_eq_true c5
      clear c5
      by_cases c6 : x13_1 < (l0.length : Int)
      ·rw [if_pos c6] at H
       have c6b0 : decide (x13_1 < (l0.length : Int)) = true := decide_eq_true c6
       clear c6
       by_cases c7 : x13_1 < (l1.length : Int)
       ·rw [if_pos c7] at H
        have c7b0 : decide (x13_1 < (l1.length : Int)) = true := decide_eq_true c7
        clear c7
        by_cases c8 : (rd l0 x13_1) = (rd l1 x13_1)
        ·rw [if_pos c8] at H
         have c8b0 : ((rd l0 x13_1) == (rd l1 x13_1)) = true := beq_iff_eq.mpr c8
         have c8b1 : ((rd l0 x13_1) != (rd l1 x13_1)) = false := bne_eq_false_iff_eq.mpr c8
         clear c8
         have H' := Aside0.mk H
         clear H
         have p165 : 0 ≤ (x13_1 : Int) := of_decide_eq_true (by first | (with_reducible assumption) | assumption)
         have q165 : x13_1 < (l0.length : Int) := of_decide_eq_true (by first | (with_reducible assumption) | assumption)
         obtain ⟨ad165, e165, hx165_0⟩ := Kd.at_int HR0.out x13_1 p165 q165
         cases e165
         replace p165 := eq_true p165
         replace q165 := eq_true q165
         have p166 : 0 ≤ (x13_1 : Int) := of_decide_eq_true (by first | (with_reducible assumption) | assumption)
         have q166 : x13_1 < (l1.length : Int) := of_decide_eq_true (by first | (with_reducible assumption) | assumption)
         obtain ⟨ad166, e166, hx166_0⟩ := Kd.at_int HR1.out x13_1 p166 q166
         cases e166
         replace p166 := eq_true p166
         replace q166 := eq_true q166
         go_wp2
         repeat (go_quiet (fail); try go_wp2)
         go_roundg k1
         case measure => have := HK1.out; omega
         case rel => exact ⟨(wrap64 (x13_1 + 1)), (by first | rfl | (simp; done) | (simp [*]; done)), H', ⟨by have := HK1.out; omega⟩, by repeat (first | exact Drawn0.refl _ | apply Drawn0.step)⟩
        ·rw [if_neg c8] at H
         have c8b0 : ((rd l0 x13_1) == (rd l1 x13_1)) = false := beq_eq_false_iff_ne.mpr c8
         have c8b1 : ((rd l0 x13_1) != (rd l1 x13_1)) = true := bne_iff_ne.mpr c8
         obtain rfl := Option.some.inj H
         have p165 : 0 ≤ (x13_1 : Int) := of_decide_eq_true (by first | (with_reducible assumption) | assumption)
         have q165 : x13_1 < (l0.length : Int) := of_decide_eq_true (by first | (with_reducible assumption) | assumption)
         obtain ⟨ad165, e165, hx165_0⟩ := Kd.at_int HR0.out x13_1 p165 q165
         cases e165
         replace p165 := eq_true p165
         replace q165 := eq_true q165
         have p166 : 0 ≤ (x13_1 : Int) := of_decide_eq_true (by first | (with_reducible assumption) | assumption)
         have q166 : x13_1 < (l1.length : Int) := of_decide_eq_true (by first | (with_reducible assumption) | assumption)
         obtain ⟨ad166, e166, hx166_0⟩ := Kd.at_int HR1.out x13_1 p166 q166
         cases e166
         replace p166 := eq_true p166
         replace q166 := eq_true q166
         go_wp2
         repeat (go_quiet (fail); try go_wp2)
         go_ret
         exact ⟨by first | rfl | (simp; done) | (simp [*]; done), by repeat (first | exact Drawn0.refl _ | apply Drawn0.step)⟩
       ·rw [if_neg c7] at H
        exact absurd H (by simp)
      ·rw [if_neg c6] at H
       exact absurd H (by simp)
     ·rw [if_neg c5] at H
      exact absurd H (by simp)
    ·rw [if_neg c4] at H
     have c4b0 : decide (x13_1 < (l0.length : Int)) = false := decide_eq_false c4
     clear c4
     obtain rfl := Option.some.inj H
     go_wp2
     repeat (go_quiet (fail); try go_wp2)
     go_ret
     exact ⟨by first | rfl | (simp; done) | (simp [*]; done), by repeat (first | exact Drawn0.refl _ | apply Drawn0.step)⟩
 ·rw [if_neg c3] at H
  have c3b0 : ((l0.length : Int) == (l1.length : Int)) = false := beq_eq_false_iff_ne.mpr c3
  have c3b1 : ((l0.length : Int) != (l1.length : Int)) = true := bne_iff_ne.mpr c3
  have c3b2 : (l0.length == l1.length) = false := by first | simpa using c3 | (simp at c3 ⊢; omega)
  obtain rfl := Option.some.inj H
  go_enter Try.func48, Try.ntmps48
  go_wp2
  repeat (go_quiet (fail); try go_wp2)
  go_ret
  exact ⟨by first | rfl | (simp; done) | (simp [*]; done), by repeat (first | exact Drawn0.refl _ | apply Drawn0.step)⟩

end Go.Proofs.Ytpiamehededilaa.P
