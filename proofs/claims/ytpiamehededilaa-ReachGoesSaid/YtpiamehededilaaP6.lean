-- Written by this project's own program (wip/tools/hp.py), driving the kit's print; hand texts among it. Not trusted: Lean checks it.
-- half the indentation
import Derived.Test.YtpiamehededilaaP0
import Derived.Test.YtpiamehededilaaP4
import Derived.Test.YtpiamehededilaaP5
namespace Go.Proofs.Ytpiamehededilaa.P
open Go.RowKit Go.Proofs.YtpiamehededilaaW.PrintWords Go.Proofs.YtpiamehededilaaW.PrintLast Go.Proofs.YtpiamehededilaaW.PrintMore
attribute [local go_sem] max2_int min2_int max_two min_two max_three min_three max_four min_four   -- for this text's walks alone
set_option linter.unusedVariables false
set_option linter.unusedSimpArgs false

-- HAND: api_Edge_51: with the text above

/-! ### edges_Add: function 29 -/
def edges_Add.f (k : Nat) (l0 : List (S36)) (a1 : Int) (a2 : Int) : Option ((List (S36)) × Int) := (edges_find.f k l0 a1 a2).bind fun bt131 => (if bt131.2.2.2 = 0 then (if bt131.2.2.1 = true then (if 0 ≤ bt131.2.1 then (if bt131.2.1 < (bt131.1.length : Int) then (if ((rd_T36 bt131.1 bt131.2.1).f2) = 1099511627776 then (some (([] : List (S36)), 4)) else (some ((bt131.1.set (bt131.2.1 : Int).toNat (⟨(rd_T36 bt131.1 bt131.2.1).f0, (rd_T36 bt131.1 bt131.2.1).f1, wrap64 (((rd_T36 bt131.1 bt131.2.1).f2) + 1)⟩ : S36)), 0))) else (none)) else (none)) else ((api_Edge_51.f bt131.1 bt131.2.1 (([(⟨a1, a2, 1⟩ : S36)] : List (S36)))).bind fun t143 => (some (t143, 0)))) else (some (([] : List (S36)), bt131.2.2.2)))
theorem edges_Add.mono : ∀ a0 a1 a2 k, LeO (edges_Add.f k a0 a1 a2) (edges_Add.f (k + 1) a0 a1 a2) := by
 intro a0 a1 a2 k
 unfold edges_Add.f
 repeat' first
   | (with_reducible exact edges_find.mono _ _ _ _)
   | (with_reducible exact LeO.refl _)
   | (with_reducible exact LeO.none _)
   | (with_reducible refine LeO.ite ?_ ?_)
   | (with_reducible refine LeO.bind ?_ (fun _ => ?_))
   | exact edges_find.mono _ _ _ _
   | exact LeO.none _
   | refine LeO.ite ?_ ?_
   | refine LeO.bind ?_ (fun _ => ?_)
set_option maxHeartbeats 8000000 in
set_option maxRecDepth 100000 in
theorem edges_Add.calls (k : Nat) (A0 : Option Addr) (c0 : Nat) (l0 : List (S36)) (a1 : Int) (a2 : Int) (r1 : List (S36)) (r2 : Int) (w : World) (hr0 : Kd.C k36 w A0 l0.length l0) (hc0 : l0.length ≤ c0) (h : edges_Add.f k l0 a1 a2 = some (r1, r2)) :
  Calls Try.prog 29 #[.slice A0 l0.length c0, .int .i64 a1, .int .i64 a2] w fun e w' => ∃ v0_ : Value, e = .returned (.tuple #[v0_, .int .i64 r2]) ∧ Kd.R k36 36 w' w.heap.size (fun _ => True) v0_ r1 ∧ Below w.heap.size w w' := by
 have hu36 := Try.underlying36
 have HR0 := Aside0.mk hr0
 have HC0 := Aside0.mk hc0
 clear hr0 hc0
 have HB := Aside0.mk (Below.refl w.heap.size w)
 have H : ((edges_find.f k l0 a1 a2).bind fun bt131 => (if bt131.2.2.2 = 0 then (if bt131.2.2.1 = true then (if 0 ≤ bt131.2.1 then (if bt131.2.1 < (bt131.1.length : Int) then (if ((rd_T36 bt131.1 bt131.2.1).f2) = 1099511627776 then (some (([] : List (S36)), 4)) else (some ((bt131.1.set (bt131.2.1 : Int).toNat (⟨(rd_T36 bt131.1 bt131.2.1).f0, (rd_T36 bt131.1 bt131.2.1).f1, wrap64 (((rd_T36 bt131.1 bt131.2.1).f2) + 1)⟩ : S36)), 0))) else (none)) else (none)) else ((api_Edge_51.f bt131.1 bt131.2.1 (([(⟨a1, a2, 1⟩ : S36)] : List (S36)))).bind fun t143 => (some (t143, 0)))) else (some (([] : List (S36)), bt131.2.2.2)))) = some (r1, r2) := h
 clear h
 replace H := Option.bind_eq_some_iff.mp H
 obtain ⟨⟨t131, t132, t133, t134⟩, A40, H⟩ := H
 replace H : (if t134 = 0 then (if t133 = true then (if 0 ≤ t132 then (if t132 < (t131.length : Int) then (if ((rd_T36 t131 t132).f2) = 1099511627776 then (some (([] : List (S36)), 4)) else (some ((t131.set (t132 : Int).toNat (⟨(rd_T36 t131 t132).f0, (rd_T36 t131 t132).f1, wrap64 (((rd_T36 t131 t132).f2) + 1)⟩ : S36)), 0))) else (none)) else (none)) else ((api_Edge_51.f t131 t132 (([(⟨a1, a2, 1⟩ : S36)] : List (S36)))).bind fun t143 => (some (t143, 0)))) else (some (([] : List (S36)), t134))) = some (r1, r2) := H
 have A4 := Aside0.mk A40
 clear A40
 by_cases c5 : t134 = 0
 ·rw [if_pos c5] at H
  have c5b0 : (t134 == 0) = true := beq_iff_eq.mpr c5
  have c5b1 : (t134 != 0) = false := bne_eq_false_iff_eq.mpr c5
  clear c5
  by_cases c6 : t133 = true
  ·subst c6
   have H1 : (if 0 ≤ t132 then (if t132 < (t131.length : Int) then (if ((rd_T36 t131 t132).f2) = 1099511627776 then (some (([] : List (S36)), 4)) else (some ((t131.set (t132 : Int).toNat (⟨(rd_T36 t131 t132).f0, (rd_T36 t131 t132).f1, wrap64 (((rd_T36 t131 t132).f2) + 1)⟩ : S36)), 0))) else (none)) else (none)) = some (r1, r2) := by rw [if_pos rfl] at H; exact H
   clear H
   have H := H1
   clear H1
   by_cases c7 : 0 ≤ t132
   ·rw [if_pos c7] at H
    have c7b0 : decide (0 ≤ t132) = true := decide_eq_true c7
    clear c7
    by_cases c8 : t132 < (t131.length : Int)
    ·rw [if_pos c8] at H
     have c8b0 : decide (t132 < (t131.length : Int)) = true := decide_eq_true c8
     clear c8
     by_cases c9 : ((rd_T36 t131 t132).f2) = 1099511627776
     ·rw [if_pos c9] at H
      have c9b0 : (((rd_T36 t131 t132).f2) == 1099511627776) = true := beq_iff_eq.mpr c9
      have c9b1 : (((rd_T36 t131 t132).f2) != 1099511627776) = false := bne_eq_false_iff_eq.mpr c9
      clear c9
      simp only [Option.some.injEq, Prod.mk.injEq] at H
      obtain ⟨rfl, rfl⟩ := H
      go_enter Try.func29, Try.ntmps29
      go_wp2_with (first | ((with_reducible refine gate_callee (f := 50) rfl ?_); refine goesL_ (some 15) rfl rfl Try.func50 (by kernel_rfl) rfl #[.slice A0 l0.length c0, .int .i64 a1, .int .i64 a2] rfl (by (try simp only [List.map_toArray, List.map_cons, List.map_nil]); first | done | rfl | (simp only [List.length_drop, List.length_take]; rfl)) ?_; (with_reducible refine (edges_find.calls k _ _ l0 a1 a2 t131 t132 true t134 _ ?side1 ?side2 A4.out).mono ?_); (case side1 => repeat (first | exact HR0.out | (with_reducible refine Kd.C_alloc ?_ _) | (with_reducible refine Kd.C_drewN ?_ _) | (with_reducible refine Kd.C_drew ?_))); (case side2 => exact HC0.out); rintro e w10 ⟨v135, rfl, ho0, hb⟩; refine ⟨_, rfl, ?_⟩; have n0_ := Aside0.mk (Kd.R_lower ho0 (below_size (by repeat (first | (with_reducible first | exact HB.out | apply below_alloc | apply pw_below_drewN | apply below_drew1) | exact HB.out)))); have n1_ := Aside0.mk (below_step (by repeat (first | (with_reducible first | exact HB.out | apply below_alloc | apply pw_below_drewN | apply below_drew1) | exact HB.out)) hb); clear HB; have HO136 := n0_; have HB := n1_; clear n0_ n1_; (try clear hb); (try clear hb2); (try clear hk); (try clear hi); (try clear ho0); obtain ⟨Ao11, co11, eo11⟩ := Kd.R_slice HO136.out; subst eo11; have p137 : 0 ≤ (t132 : Int) := of_decide_eq_true (by first | (with_reducible assumption) | assumption); have q137 : t132 < (t131.length : Int) := of_decide_eq_true (by first | (with_reducible assumption) | assumption); obtain ⟨ad137, e137, hx137_0, hx137_1, hx137_2⟩ := at_T36 (Kd.R_reads' HO136.out).2.2 t132 p137 q137; cases e137; replace p137 := eq_true p137; replace q137 := eq_true q137))
      go_ret2
      exact ⟨_, by first | rfl | (simp [errW_none, errW_some] <;> rfl) | (simp [*, errW_none, errW_some] <;> rfl), by first | exact Kd.R_nil _ _ _ _ _ | exact Kd.N_nil _ _ _ _ _ | exact Kd.V_nil _ _ _ _ _ | exact Kd.Q_nil _ _ _ _ _ | exact Kd.S_nil _ _ _ _ _, by repeat (first | (with_reducible first | exact HB.out | apply below_alloc | apply pw_below_drewN | apply below_drew1) | exact HB.out)⟩
     ·rw [if_neg c9] at H
      have c9b0 : (((rd_T36 t131 t132).f2) == 1099511627776) = false := beq_eq_false_iff_ne.mpr c9
      have c9b1 : (((rd_T36 t131 t132).f2) != 1099511627776) = true := bne_iff_ne.mpr c9
      obtain ⟨y139, hy139⟩ : ∃ y_ : List (S36), y_ = (t131.set (t132 : Int).toNat (⟨(rd_T36 t131 t132).f0, (rd_T36 t131 t132).f1, wrap64 (((rd_T36 t131 t132).f2) + 1)⟩ : S36)) := ⟨_, rfl⟩
      replace H : (some (y139, 0)) = some (r1, r2) := by first | (rw [hy139]; with_reducible exact H) | (have H2_ := (Option.bind_some _ _).symm.trans H; rw [hy139]; with_reducible exact H2_) | (have H2_ := (Option.bind_some _ _).symm.trans H; with_reducible exact H2_) | with_reducible exact H | (rw [hy139]; exact H) | exact H
      have Ny139 := Aside0.mk hy139
      clear hy139
      simp only [Option.some.injEq, Prod.mk.injEq] at H
      obtain ⟨rfl, rfl⟩ := H
      go_enter Try.func29, Try.ntmps29
      go_wp2_with (first | ((with_reducible refine gate_callee (f := 50) rfl ?_); refine goesL_ (some 15) rfl rfl Try.func50 (by kernel_rfl) rfl #[.slice A0 l0.length c0, .int .i64 a1, .int .i64 a2] rfl (by (try simp only [List.map_toArray, List.map_cons, List.map_nil]); first | done | rfl | (simp only [List.length_drop, List.length_take]; rfl)) ?_; (with_reducible refine (edges_find.calls k _ _ l0 a1 a2 t131 t132 true t134 _ ?side1 ?side2 A4.out).mono ?_); (case side1 => repeat (first | exact HR0.out | (with_reducible refine Kd.C_alloc ?_ _) | (with_reducible refine Kd.C_drewN ?_ _) | (with_reducible refine Kd.C_drew ?_))); (case side2 => exact HC0.out); rintro e w13 ⟨v135, rfl, ho0, hb⟩; refine ⟨_, rfl, ?_⟩; have n0_ := Aside0.mk (Kd.R_lower ho0 (below_size (by repeat (first | (with_reducible first | exact HB.out | apply below_alloc | apply pw_below_drewN | apply below_drew1) | exact HB.out)))); have n1_ := Aside0.mk (below_step (by repeat (first | (with_reducible first | exact HB.out | apply below_alloc | apply pw_below_drewN | apply below_drew1) | exact HB.out)) hb); clear HB; have HO136 := n0_; have HB := n1_; clear n0_ n1_; (try clear hb); (try clear hb2); (try clear hk); (try clear hi); (try clear ho0); obtain ⟨Ao14, co14, eo14⟩ := Kd.R_slice HO136.out; subst eo14; have p137 : 0 ≤ (t132 : Int) := of_decide_eq_true (by first | (with_reducible assumption) | assumption); have q137 : t132 < (t131.length : Int) := of_decide_eq_true (by first | (with_reducible assumption) | assumption); obtain ⟨ad137, e137, hx137_0, hx137_1, hx137_2⟩ := at_T36 (Kd.R_reads' HO136.out).2.2 t132 p137 q137; cases e137; replace p137 := eq_true p137; replace q137 := eq_true q137; have p138 : 0 ≤ (t132 : Int) := of_decide_eq_true (by first | (with_reducible assumption) | assumption); have q138 : t132 < (t131.length : Int) := of_decide_eq_true (by first | (with_reducible assumption) | assumption); obtain ⟨ad138, e138, hx138_0, hx138_1, hx138_2⟩ := at_T36 (Kd.R_reads' HO136.out).2.2 t132 p138 q138; obtain rfl : ad137 = ad138 := (by injection e138); replace p138 := eq_true p138; replace q138 := eq_true q138; have p12 : 0 ≤ (t132 : Int) := of_decide_eq_true (by first | (with_reducible assumption) | assumption); have q12 : (t132 : Int) < ((t131.length : Int) : Int) := of_decide_eq_true (by first | (with_reducible assumption) | assumption); obtain ⟨go12, co12, eo12, gb12, gl12, cl12, HG12⟩ := Kd.R_form HO136.out (by omega); (first | cases eo12 | (injection eo12 with ea_ en_ ec_; (first | subst ea_ | (injection ea_ with ea_; subst ea_)); subst ec_; clear en_)); have GB12 := Aside0.mk gb12; have GG12 := Aside0.mk HG12; clear gb12 gl12 HG12; (first | simp only [add_plain] at hx137_0 | skip); (first | simp only [add_plain] at hx137_1 | skip); (first | simp only [add_plain] at hx137_2 | skip); (first | simp only [add_plain] at hx138_0 | skip); (first | simp only [add_plain] at hx138_1 | skip); (first | simp only [add_plain] at hx138_2 | skip); obtain ⟨ce12, hcl12, hM12, hcc12, hfr12⟩ := Kd.R_elem HO136.out z36 (t132 : Int) p12 q12; obtain rfl := k36_openM hM12; have hx12_0 : w13.cell? ⟨go12, (t132 : Int).toNat * 3, none⟩ = some (.int .i64 ((rd_T36 t131 t132).f0)) := hcc12 0 _ rfl; have hx12_1 : w13.cell? ⟨go12, (t132 : Int).toNat * 3 + 1, none⟩ = some (.int .i64 ((rd_T36 t131 t132).f1)) := hcc12 1 _ rfl; have hx12_2 : w13.cell? ⟨go12, (t132 : Int).toNat * 3 + 2, none⟩ = some (.int .i64 ((rd_T36 t131 t132).f2)) := hcc12 2 _ rfl; have hf12_0 : w13.frozen? ⟨go12, (t132 : Int).toNat * 3, none⟩ = false := hfr12 0; have hf12_1 : w13.frozen? ⟨go12, (t132 : Int).toNat * 3 + 1, none⟩ = false := hfr12 1; have hf12_2 : w13.frozen? ⟨go12, (t132 : Int).toNat * 3 + 2, none⟩ = false := hfr12 2; clear hcl12 hcc12 hfr12 hM12; replace p12 := eq_true p12; replace q12 := eq_true q12; have HX15 := Aside0.mk (show Kd.R k36 36 w13 w.heap.size (fun _ => True) (.slice (some ⟨go12, 0, none⟩) t131.length co14) t131 from (by (with_reducible repeat (first | apply Kd.R_alloc | apply Kd.R_drewN | apply Kd.R_drew)); exact HO136.out)); obtain ⟨ce15, hcl15, hM15, hcc15, hfr15⟩ := Kd.R_elem HX15.out z36 (t132 : Int) (of_decide_eq_true (by first | (with_reducible assumption) | assumption)) (by have h_ : (t132 : Int) < ((t131.length : Int) : Int) := of_decide_eq_true (by first | (with_reducible assumption) | assumption); first | exact h_ | (have e_ := (Kd.R_reads' HO136.out).1; omega) | simpa using h_); obtain rfl := k36_openM hM15; have HP15 := Kd.R_seg HX15.out (t132 : Int) (of_decide_eq_true (by first | (with_reducible assumption) | assumption)) (by have h_ : (t132 : Int) < ((t131.length : Int) : Int) := of_decide_eq_true (by first | (with_reducible assumption) | assumption); first | exact h_ | (have e_ := (Kd.R_reads' HO136.out).1; omega) | simpa using h_) (seg := [.int .i64 (wrap64 (((rd_T36 t131 t132).f2) + 1))]) (j := 2) hcl15 hcc15 (show 3 ≤ 3 from by decide) (x' := (⟨(rd_T36 t131 t132).f0, (rd_T36 t131 t132).f1, wrap64 (((rd_T36 t131 t132).f2) + 1)⟩ : S36)) (k36_mkM _ _ _ (⟨(rd_T36 t131 t132).f0, (rd_T36 t131 t132).f1, wrap64 (((rd_T36 t131 t132).f2) + 1)⟩ : S36) ) (fun _ hk => hk); have hx15_2 := hcc15 2 _ rfl; (try simp only [show (k36).sz = 3 from rfl, Nat.mul_one, Nat.add_zero] at hx15_2); have hf15_2 := hfr15 2; (try simp only [show (k36).sz = 3 from rfl, Nat.mul_one, Nat.add_zero] at hf15_2); clear hcl15 hcc15 hfr15 hM15) | ((with_reducible refine gate_store (t := 3) (p := 48) rfl ?_); refine store_event (t := 3) (p := 48) (v := ?vo_w16) (w1 := (w13.setCell ⟨go12, (t132 : Int).toNat * 3 + 2, none⟩ (.int .i64 (wrap64 (((rd_T36 t131 t132).f2) + 1))))) ?hg ?ho ?hn ?hr ?_; (case ho => rfl); (case hg => rfl); (case hn => rfl); (case hr => first | (go_simp; done) | (go_simp; rfl)); intro w16 hw; have hg : w13.grownBy w16 (some go12) := (by rw [hw]; exact HP15.2); have hp_ : Kd.R k36 36 w16 w.heap.size (fun _ => True) (.slice (some ⟨go12, 0, none⟩) t131.length co14) y139 := (by rw [hw, Ny139.out]; exact HP15.1); clear HP15; have n0_ := Aside0.mk (hp_); have n1_ := Aside0.mk ((by rw [hw]; exact below_set (HB.out) GB12.out : Below w.heap.size w w16)); clear HO136; clear HB; have HO136 := n0_; have HB := n1_; clear n0_ n1_; clear hg hw hp_))
      go_ret2
      exact ⟨_, by first | rfl | (simp [errW_none, errW_some] <;> rfl) | (simp [*, errW_none, errW_some] <;> rfl), by (with_reducible repeat (first | apply Kd.R_alloc | apply Kd.R_drewN | apply Kd.R_drew)); exact HO136.out, by repeat (first | (with_reducible first | exact HB.out | apply below_alloc | apply pw_below_drewN | apply below_drew1) | exact HB.out)⟩
    ·rw [if_neg c8] at H
     exact absurd H (by simp)
   ·rw [if_neg c7] at H
    exact absurd H (by simp)
  ·replace c6 := Bool.eq_false_iff.mpr c6
   subst c6
   have H1 : ((api_Edge_51.f t131 t132 (([(⟨a1, a2, 1⟩ : S36)] : List (S36)))).bind fun t143 => (some (t143, 0))) = some (r1, r2) := by rw [if_neg (show ¬ (false = true) by decide)] at H; exact H
   clear H
   have H := H1
   clear H1
   obtain ⟨y140, hy140⟩ : ∃ y_ : List (S36), y_ = (([(⟨a1, a2, 1⟩ : S36)] : List (S36))) := ⟨_, rfl⟩
   replace H : ((api_Edge_51.f t131 t132 y140).bind fun t143 => (some (t143, 0))) = some (r1, r2) := by first | (rw [hy140]; with_reducible exact H) | (have H2_ := (Option.bind_some _ _).symm.trans H; rw [hy140]; with_reducible exact H2_) | (have H2_ := (Option.bind_some _ _).symm.trans H; with_reducible exact H2_) | with_reducible exact H | (rw [hy140]; exact H) | exact H
   have Ny140 := Aside0.mk hy140
   clear hy140
   replace H := Option.bind_eq_some_iff.mp H
   obtain ⟨t143, A170, H⟩ := H
   replace H : (some (t143, 0)) = some (r1, r2) := H
   have A17 := Aside0.mk A170
   clear A170
   simp only [Option.some.injEq, Prod.mk.injEq] at H
   obtain ⟨rfl, rfl⟩ := H
   go_enter Try.func29, Try.ntmps29
   go_wp2_with (first | ((with_reducible refine gate_callee (f := 50) rfl ?_); refine goesL_ (some 15) rfl rfl Try.func50 (by kernel_rfl) rfl #[.slice A0 l0.length c0, .int .i64 a1, .int .i64 a2] rfl (by (try simp only [List.map_toArray, List.map_cons, List.map_nil]); first | done | rfl | (simp only [List.length_drop, List.length_take]; rfl)) ?_; (with_reducible refine (edges_find.calls k _ _ l0 a1 a2 t131 t132 false t134 _ ?side1 ?side2 A4.out).mono ?_); (case side1 => repeat (first | exact HR0.out | (with_reducible refine Kd.C_alloc ?_ _) | (with_reducible refine Kd.C_drewN ?_ _) | (with_reducible refine Kd.C_drew ?_))); (case side2 => exact HC0.out); rintro e w18 ⟨v135, rfl, ho0, hb⟩; refine ⟨_, rfl, ?_⟩; have n0_ := Aside0.mk (Kd.R_lower ho0 (below_size (by repeat (first | (with_reducible first | exact HB.out | apply below_alloc | apply pw_below_drewN | apply below_drew1) | exact HB.out)))); have n1_ := Aside0.mk (below_step (by repeat (first | (with_reducible first | exact HB.out | apply below_alloc | apply pw_below_drewN | apply below_drew1) | exact HB.out)) hb); clear HB; have HO136 := n0_; have HB := n1_; clear n0_ n1_; (try clear hb); (try clear hb2); (try clear hk); (try clear hi); (try clear ho0)) | ((with_reducible refine gate_dst (N := 32) rfl ?_); refine Kd.R_lit k36 _ 36 ?hg (N := 32) ?hd (xs := ([(⟨a1, a2, 1⟩ : S36)] : List (S36))) (inner := [.int .i64 a1, .int .i64 a2, .int .i64 1]) (ok := fun _ => True) (okp := fun _ => True) ?hr ?hp (fun _ hk => hk) trivial (Below.refl _ _) (Nat.le_refl _) (by simp) ?_; (case hd => rfl); (case hg => rfl); (case hr => first | (go_simp; done) | (go_simp; rfl)); (case hp => exact (Reps.c3 (show Kd.M k36 _ _ _ (⟨a1, a2, 1⟩ : S36) [.int .i64 a1, .int .i64 a2, .int .i64 1] from (k36_mkM _ _ _ (⟨a1, a2, 1⟩ : S36) )) (Reps.none _ _))); intro v141 w19 ho20 hb hg_ hnew_; clear hg_ hnew_; (first | rw [← Ny140.out] at ho20 | (simp only [Int.reduceToNat] at ho20; rw [← Ny140.out] at ho20)); have n0_ := Aside0.mk (Kd.R_elder' (by (with_reducible repeat (first | apply Kd.R_alloc | apply Kd.R_drewN | apply Kd.R_drew)); exact HO136.out) (Kd.R_base ho20) hb); have n1_ := Aside0.mk (Kd.R_lower (Kd.R_new' ho20 (Kd.R_lt (by (with_reducible repeat (first | apply Kd.R_alloc | apply Kd.R_drewN | apply Kd.R_drew)); exact HO136.out))) (below_size (by repeat (first | (with_reducible first | exact HB.out | apply below_alloc | apply pw_below_drewN | apply below_drew1) | exact HB.out)))); have n2_ := Aside0.mk (below_step (by repeat (first | (with_reducible first | exact HB.out | apply below_alloc | apply pw_below_drewN | apply below_drew1) | exact HB.out)) hb); clear HO136; clear HB; have HO136 := n0_; have HO142 := n1_; have HB := n2_; clear n0_ n1_ n2_; clear hb ho20; obtain ⟨Ao21, co21, eo21⟩ := Kd.R_slice HO136.out; subst eo21; obtain ⟨Ao22, co22, eo22⟩ := Kd.R_slice HO142.out; subst eo22) | ((with_reducible refine gate_callee (f := 51) rfl ?_); refine goesL_ (some 33) rfl rfl Try.func51 (by kernel_rfl) rfl #[.slice Ao21 t131.length co21, .int .i64 t132, .slice Ao22 y140.length co22] rfl (by (try simp only [List.map_toArray, List.map_cons, List.map_nil]); first | done | rfl | (simp only [List.length_drop, List.length_take]; rfl)) ?_; (with_reducible refine (api_Edge_51.calls (fun k_ => some k_ = (.slice Ao21 t131.length co21 : Value).ownBlock) (.slice Ao21 t131.length co21) t131 t132 _ _ y140 t143 w _ ?side1 ?side2 ?side3 ?side4 A17.out).mono ?_); (case side1 => repeat (first | (with_reducible first | exact HB.out | apply below_alloc | apply pw_below_drewN | apply below_drew1) | exact HB.out)); (case side2 => exact Kd.R_tight rfl HO136.out); (case side3 => exact Kd.C_kept_own (HO142.out) (fun k_ hk_ hs_ => (hk_.2) hs_)); (case side4 => exact (Kd.R_reads' HO142.out).2.1); rintro e w23 ⟨v144, rfl, ho0, hb, hkp⟩; refine ⟨_, rfl, ?_⟩; have n0_ := Aside0.mk (Kd.R_mono (ok' := fun k_ => some k_ ≠ (v144 : Value).ownBlock) (Kd.R_keptB (HO142.out) hkp (fun k_ hk_ hs_ => (hk_.2) hs_)) (fun k_ hk_ => fun e_ => Or.elim (ho0.1 k_ e_.symm) (fun hs_ => hk_.2.1 hs_) (fun hn_ => Nat.not_le.2 hk_.2.2 hn_))); have n1_ := Aside0.mk (Kd.R_mono (ok' := fun k_ => some k_ ≠ (.slice Ao22 y140.length co22 : Value).ownBlock) ho0 (fun k_ hk_ => Or.elim hk_ (fun hs_ => fun e_ => (((HO142.out).1 k_ e_.symm).2) hs_) (fun hn_ => (Kd.fresh' (Kd.R_lt (by (with_reducible repeat (first | apply Kd.R_alloc | apply Kd.R_drewN | apply Kd.R_drew)); exact HO142.out)) k_ hn_)))); have n2_ := Aside0.mk (hb); clear HO142; clear HB; clear HO136; have HO142 := n0_; have HO145 := n1_; have HB := n2_; clear n0_ n1_ n2_; (try clear hb); (try clear hkp); (try clear ho0)))
   go_ret2
   exact ⟨_, by first | rfl | (simp [errW_none, errW_some] <;> rfl) | (simp [*, errW_none, errW_some] <;> rfl), by (with_reducible repeat (first | apply Kd.R_alloc | apply Kd.R_drewN | apply Kd.R_drew)); exact Kd.R_mono HO145.out (fun _ hk => trivial), by repeat (first | (with_reducible first | exact HB.out | apply below_alloc | apply pw_below_drewN | apply below_drew1) | exact HB.out)⟩
 ·rw [if_neg c5] at H
  have c5b0 : (t134 == 0) = false := beq_eq_false_iff_ne.mpr c5
  have c5b1 : (t134 != 0) = true := bne_iff_ne.mpr c5
  simp only [Option.some.injEq, Prod.mk.injEq] at H
  obtain ⟨rfl, rfl⟩ := H
  go_enter Try.func29, Try.ntmps29
  go_wp2_with (first | ((with_reducible refine gate_callee (f := 50) rfl ?_); refine goesL_ (some 15) rfl rfl Try.func50 (by kernel_rfl) rfl #[.slice A0 l0.length c0, .int .i64 a1, .int .i64 a2] rfl (by (try simp only [List.map_toArray, List.map_cons, List.map_nil]); first | done | rfl | (simp only [List.length_drop, List.length_take]; rfl)) ?_; (with_reducible refine (edges_find.calls k _ _ l0 a1 a2 t131 t132 t133 t134 _ ?side1 ?side2 A4.out).mono ?_); (case side1 => repeat (first | exact HR0.out | (with_reducible refine Kd.C_alloc ?_ _) | (with_reducible refine Kd.C_drewN ?_ _) | (with_reducible refine Kd.C_drew ?_))); (case side2 => exact HC0.out); rintro e w24 ⟨v135, rfl, ho0, hb⟩; refine ⟨_, rfl, ?_⟩; have n0_ := Aside0.mk (Kd.R_lower ho0 (below_size (by repeat (first | (with_reducible first | exact HB.out | apply below_alloc | apply pw_below_drewN | apply below_drew1) | exact HB.out)))); have n1_ := Aside0.mk (below_step (by repeat (first | (with_reducible first | exact HB.out | apply below_alloc | apply pw_below_drewN | apply below_drew1) | exact HB.out)) hb); clear HB; have HO136 := n0_; have HB := n1_; clear n0_ n1_; (try clear hb); (try clear hb2); (try clear hk); (try clear hi); (try clear ho0)))
  go_ret2
  exact ⟨_, by first | rfl | (simp [errW_none, errW_some] <;> rfl) | (simp [*, errW_none, errW_some] <;> rfl), by first | exact Kd.R_nil _ _ _ _ _ | exact Kd.N_nil _ _ _ _ _ | exact Kd.V_nil _ _ _ _ _ | exact Kd.Q_nil _ _ _ _ _ | exact Kd.S_nil _ _ _ _ _, by repeat (first | (with_reducible first | exact HB.out | apply below_alloc | apply pw_below_drewN | apply below_drew1) | exact HB.out)⟩

-- HAND: slices_Clone_int_int: with the text above

end Go.Proofs.Ytpiamehededilaa.P
