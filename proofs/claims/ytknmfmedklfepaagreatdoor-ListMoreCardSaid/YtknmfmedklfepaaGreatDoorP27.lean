-- half the indentation
import Derived.Test.YtknmfmedklfepaaGreatDoorSqz
import Derived.Test.YtknmfmedklfepaaGreatDoorP0
import Derived.Test.YtknmfmedklfepaaGreatDoorP3
import Derived.Test.YtknmfmedklfepaaGreatDoorP22
import Derived.Test.YtknmfmedklfepaaGreatDoorP23
import Derived.Test.YtknmfmedklfepaaGreatDoorP24
import Derived.Test.YtknmfmedklfepaaGreatDoorP25
import Derived.Test.YtknmfmedklfepaaGreatDoorP26
namespace Go.Proofs.YtknmfmedklfepaaGreatDoor.P
open Go.RowKit Go.Proofs.YtknmfmedklfepaaGreatDoorW.PrintWords Go.Proofs.YtknmfmedklfepaaGreatDoorW.PrintLast Go.Proofs.YtknmfmedklfepaaGreatDoorW.PrintMore
attribute [local go_sem] max2_int min2_int max_two min_two max_three min_three max_four min_four
set_option linter.unusedVariables false
set_option linter.unusedSimpArgs false
set_option maxHeartbeats 8000000
set_option maxRecDepth 100000

/-! ### graftwoodlaw17_ListMore: function 6 -/
def graftwoodlaw17_ListMore.f (k : Nat) (l0 : List (S63)) (a1_0 : ByteArray) (a1_1 : ByteArray) : Option (Bool) := (graftwoodlaw16_Few.f k l0).bind fun an => ((graftwoodlaw05_One.f a1_0 a1_1).bind fun bt309 => ((tally_Add.f k an bt309.1 bt309.2).bind fun bt311 => (if bt311.2 = 0 then ((list_Build.f k an).bind fun bt316 => ((list_Build.f k bt311.1).bind fun bt320 => ((list_Above.f k bt316.1 bt320.1).bind fun bt324 => ((list_Delta.f k bt316.1 bt320.1).bind fun bt326 => ((list_Pick.f k bt320.1 bt309.1).bind fun bt330 => ((tally_Best.f k bt311.1 bt309.1).bind fun bt332 => (if bt316.2 = 0 then (if bt320.2 = 0 then (if bt324.2 = 0 then (if bt326.2 = 0 then (if bt330.2 = 0 then (if bt332.2 = 0 then (if bt324.1 = true then (if (bt326.1.length : Int) ≤ 1 then (if bt330.1.toList = bt332.1.toList then (if (bt320.1.length : Int) = (bt311.1.length : Int) then ((list_Check.f k bt320.1).bind fun ah => (if ah = 0 then ((graftwoodlaw17_awake.f k).bind fun ak => (some ak)) else (some false))) else (some false)) else (some false)) else (some false)) else (some false)) else (some false)) else (some false)) else (some false)) else (some false)) else (some false)) else (some false)))))))) else ((graftwoodlaw17_awake.f k).bind fun ap => (some ap)))))
theorem graftwoodlaw17_ListMore.mono : ∀ a0 a1 a2 k, LeO (graftwoodlaw17_ListMore.f k a0 a1 a2) (graftwoodlaw17_ListMore.f (k + 1) a0 a1 a2) := by
 intro a0 a1 a2 k
 unfold graftwoodlaw17_ListMore.f
 repeat' first | (with_reducible first | apply graftwoodlaw16_Few.mono | apply graftwoodlaw17_awake.mono | apply list_Above.mono | apply list_Build.mono | apply list_Check.mono | apply list_Delta.mono | apply list_Pick.mono | apply tally_Add.mono | apply tally_Best.mono | apply LeO.refl | apply LeO.none | apply LeO.ite | refine LeO.bind ?_ (fun _ => ?_)) | apply graftwoodlaw16_Few.mono | apply graftwoodlaw17_awake.mono | apply list_Above.mono | apply list_Build.mono | apply list_Check.mono | apply list_Delta.mono | apply list_Pick.mono | apply tally_Add.mono | apply tally_Best.mono | exact LeO.none _ | refine LeO.ite ?_ ?_ | refine LeO.bind ?_ (fun _ => ?_)
theorem graftwoodlaw17_ListMore.calls (k : Nat) (A0 : Option Addr) (c0 : Nat) (l0 : List (S63)) (a1_0 : ByteArray) (a1_1 : ByteArray) (r : Bool) (w : World) (hr0 : Kd.C k63 w A0 l0.length l0) (hc0 : l0.length ≤ c0) (h : graftwoodlaw17_ListMore.f k l0 a1_0 a1_1 = some r) (hR_ : r = true) :
  Calls Tryz.prog 6 #[.slice A0 l0.length c0, .agg #[.string a1_0, .string a1_1]] w fun e w' => e = .returned (.bool r) ∧ Below w.heap.size w w' := by
 have hu55 := Tryz.underlying55
 have HR0 := Aside0.mk hr0
 have HC0 := Aside0.mk hc0
 clear hr0 hc0
 have HB := am (Below.refl w.heap.size w)
 unfold graftwoodlaw17_ListMore.f at h; have H := h; clear h
 replace H := bnd H; obtain ⟨an, A3, H⟩ := H
 replace H := bnd H; obtain ⟨⟨ad, al⟩, A4, H⟩ := H
 (try dsimp only at H)
 replace H := bnd H; obtain ⟨⟨aj, az⟩, A5, H⟩ := H
 (try dsimp only at H)
 replace H := ifP H; rcases H with ⟨c6, H⟩ | ⟨c6, H⟩
 ·have bL := beq_iff_eq.mpr c6
  have bM := bne_eq_false_iff_eq.mpr c6
  clear c6
  replace H := bnd H; obtain ⟨⟨au, aq⟩, A7, H⟩ := H
  (try dsimp only at H)
  replace H := bnd H; obtain ⟨⟨af, ar⟩, A8, H⟩ := H
  (try dsimp only at H)
  replace H := bnd H; obtain ⟨⟨aE, av⟩, A9, H⟩ := H
  (try dsimp only at H)
  replace H := bnd H; obtain ⟨⟨aw, ax⟩, A10, H⟩ := H
  (try dsimp only at H)
  replace H := bnd H; obtain ⟨⟨ay, aA⟩, A11, H⟩ := H
  (try dsimp only at H)
  replace H := bnd H; obtain ⟨⟨aB, aC⟩, A12, H⟩ := H
  (try dsimp only at H)
  replace H := ifT H hR_; obtain ⟨c13, H⟩ := H
  have aM := beq_iff_eq.mpr c13
  have aN := bne_eq_false_iff_eq.mpr c13
  clear c13
  replace H := ifT H hR_; obtain ⟨c14, H⟩ := H
  have aO := beq_iff_eq.mpr c14
  have aP := bne_eq_false_iff_eq.mpr c14
  clear c14
  replace H := ifT H hR_; obtain ⟨c15, H⟩ := H
  have aQ := beq_iff_eq.mpr c15
  have aR := bne_eq_false_iff_eq.mpr c15
  clear c15
  replace H := ifT H hR_; obtain ⟨c16, H⟩ := H
  have aU := beq_iff_eq.mpr c16
  have aV := bne_eq_false_iff_eq.mpr c16
  clear c16
  replace H := ifT H hR_; obtain ⟨c17, H⟩ := H
  have aW := beq_iff_eq.mpr c17
  have aX := bne_eq_false_iff_eq.mpr c17
  clear c17
  replace H := ifT H hR_; obtain ⟨c18, H⟩ := H
  have aY := beq_iff_eq.mpr c18
  have aZ := bne_eq_false_iff_eq.mpr c18
  clear c18
  replace H := ifT H hR_; obtain ⟨rfl, H⟩ := H
  replace H := ifP H; rcases H with ⟨c20, H⟩ | ⟨c20, H⟩
  ·have a3 := decide_eq_true c20
   have a4 : decide (aw.length ≤ 1) = true := decide_eq_true (by omega)
   clear c20
   replace H := ifT H hR_; obtain ⟨c21, H⟩ := H
   have a5 := beq_iff_eq.mpr c21
   have a6 := bne_eq_false_iff_eq.mpr c21
   clear c21
   replace H := ifT H hR_; obtain ⟨c22, H⟩ := H
   have a7 := beq_iff_eq.mpr c22
   have a8 := bne_eq_false_iff_eq.mpr c22
   have a9 : (af.length == aj.length) = true := by first | simpa using c22 | (simp at c22 ⊢; omega)
   clear c22
   replace H := bnd H; obtain ⟨ah, A23, H⟩ := H
   replace H := ifT H hR_; obtain ⟨c24, H⟩ := H
   have bb := beq_iff_eq.mpr c24
   have bc := bne_eq_false_iff_eq.mpr c24
   clear c24
   replace H := bnd H; obtain ⟨ak, A25, H⟩ := H
   obtain rfl := smI H
   go_enter Tryz.func6, Tryz.ntmps6
   try go_wp2_with (first | ((with_reducible refine gtD 3 ?_); (try (refine gate_guard (by rfl) ?_; dsimp only)); refine xBx 3 55 #[.string a1_0, .string a1_1] ?_; intro ab hg w26 hbox hb; have aa := am (hbox); have bf := am ((gTx hg HB.out)); have bg := am ((gTx hg HB.out)); replace HB := am (sTx HB.out hb); clear hb hbox hg))
   replace aa := am (blk_drew aa.out)
   replace HB := am (below_drew1 HB.out)
   refine start_ (n := 6) (S := fun w' => w'.cell? ⟨ab, 0, none⟩ = some (.string a1_0) ∧ w'.cell? ⟨ab, 1, none⟩ = some (.string a1_1)) (ds := [5]) (bA 6 0) rfK rfl rfK ⟨cT aa 0, cT aa 1⟩ (fun hHeld => ?_)
   generalize w26.drew = w27 at aa HB hHeld ⊢
   refine pure_ (i := 0) (N := some 19) (v := ?_) (a' := ?_) (bA 6 1) rfl rfl rfK (fun _ _ _ h => h) (Or.inl ⟨by rfl, ?_⟩) ?_ ?_
   rotate_left
   ·intro w'
    go_simp
    with_reducible rfl
   rotate_left
   ·simp only [pS]
    rfl
   refine take_ (i := 2) (N := some 21) (v := ?_) (a' := ?_) (bA 6 5) rfl rfl rfK (fun _ _ _ h => h) (Or.inl ⟨by rfl, ?_⟩) hHeld ?_ ?_
   rotate_left
   ·rintro w' ⟨s0, s1⟩
    go_simp
    with_reducible rfl
   rotate_left
   ·simp only [pS]
    rfl
   refine one_ (i := 1) (N := some 20) (bA 6 7) rfl rfl rfK (by decide) (fun K hK => ?_)
   refine gS Tryz.func8 #[.slice A0 l0.length c0] ?_
   with_reducible refine (graftwoodlaw16_Few.calls k _ _ l0 an _ (cW (Kd.C_below HR0.out HB.out)) HC0.out A3.out).mono ?_
   rintro e w28 ⟨aG, rfl, ho0, hb⟩
   refine ⟨_, rfl, ?_⟩
   have ac := am (Kd.S_lower ho0 (below_size (eTx HB.out)))
   replace aa := am (bB aa.out hb)
   replace HB := am (sTx HB.out hb)
   refine hK.out _ _ ⟨cT aa 0, cT aa 1⟩ (fun hHeld => ?_)
   clear hK K
   refine mN 20 ?_
   refine one_ (i := 3) (N := some 22) (bA 6 15) rfl rfl rfK (by decide) (fun K hK => ?_)
   refine gS Tryz.func29 #[.agg #[.string a1_0, .string a1_1]] ?_
   with_reducible refine (graftwoodlaw05_One.calls a1_0 a1_1 ad al _ A4.out).mono ?_
   rintro e w29 ⟨rfl, hb⟩
   refine ⟨_, rfl, ?_⟩
   replace ac := am (Kd.S_below (by (with_reducible repeat (first | apply Kd.S_alloc | apply Kd.S_drewN | apply Kd.S_drew)); exact ac.out) hb)
   replace aa := am (bB aa.out hb)
   replace HB := am (sTx HB.out hb)
   refine hK.out _ _ ⟨cT aa 0, cT aa 1⟩ (fun hHeld => ?_)
   clear hK K
   refine mN 22 ?_
   refine pure_ (i := 4) (N := some 0) (v := ?_) (a' := ?_) (bA 6 31) rfl rfl rfK (fun _ _ _ h => h) (Or.inl ⟨by rfl, ?_⟩) ?_ ?_
   rotate_left
   ·intro w'
    go_simp
    with_reducible rfl
   rotate_left
   ·simp only [pS]
    rfl
   refine last_ (i := 5) (N := none) (bA 6 63) rfl rfl rfK (by decide) (fun K hK => ?_)
   obtain ⟨b3, bZ⟩ := bxA aa
   have b4 : w29.cell? ⟨ab, 1, none⟩ = some (.string a1_1) := cT aa 1
   have b0 := blk_frozen aa.out 1
   refine skip_ (w1 := ?_) (by rfl) rfl ?_ ?_
   rotate_left
   ·go_simp
    rfl
   refine hK.out _ _ ?_
   clear hK K
   refine done_ rfK ?_
   obtain ⟨w32, hW_⟩ : ∃ W_, ((w29.setCell ⟨ab, 0, none⟩ (.string ad)).setCell ⟨ab, 1, none⟩ (.string al)) = W_ := ⟨_, rfl⟩
   have n0_ : Aside0 (Kd.S k63 63 w32 w.heap.size (fun _ => True) aG an) := ⟨by rw [← hW_]; (with_reducible repeat (first | apply Kd.S_alloc | apply Kd.S_drewN | apply Kd.S_drew)); exact Kd.S_mono (Kd.S_far (p := ⟨ab, 1, none⟩) (Kd.S_far (p := ⟨ab, 0, none⟩) (Kd.S_types ac.out aa.out (by decide)) (fun _ hk => hk.2) (.string ad)) (fun _ hk => hk.2) (.string al)) (fun _ hk => trivial)⟩
   have n1_ : Aside0 (w32.heap[ab]? = some (.cells #[.string ad, .string al] 55 (0, 0))) := ⟨by rw [← hW_]; exact kBk⟩
   have n2_ : Aside0 (Below w.heap.size w w32) := ⟨by rw [← hW_]; exact eTx HB.out⟩
   rw [hW_]
   clear hW_
   have ac := n0_
   have aa := n1_
   have HB := n2_
   clear n0_ n1_ n2_
   obtain ⟨bw, bx, bz, bC⟩ := bxB aa
   obtain ⟨bh, bi, bN⟩ := Kd.S_slice ac.out
   subst bN
   try go_wp2_with (first | ((with_reducible refine gtC 30 ?_); refine xCl 26 Tryz.func30 (tally_Add.calls k (fun k_ => (True ∧ k_ ≠ ab)) _ _ an ad al aj az _ (Kd.S_V (Kd.S_types (ac.out) aa.out (by decide))) A5.out) ?_; rintro e w35 ⟨bO, rfl, ho0, hb⟩; refine ⟨_, rfl, ?_⟩; replace ac := am (Kd.S_below (by (with_reducible repeat (first | apply Kd.S_alloc | apply Kd.S_drewN | apply Kd.S_drew)); exact ac.out) hb); have ae := am (Kd.V_lower (Kd.V_mono (ok' := fun k_ => k_ ≠ ab) ho0 (fun k_ hk_ => Or.elim hk_ (fun hs_ => hs_.2) (fun hn_ => (Kd.freshB (g := ab) (o := .cells #[.string ad, .string al] 55 (0, 0)) (bT aa.out) k_ hn_)))) (below_size (eTx HB.out))); replace aa := am (bB aa.out hb); replace HB := am (sTx HB.out hb)) | ((with_reducible refine gtC 10 ?_); refine xCl 34 Tryz.func10 (list_Build.calls k _ _ an au aq _ (cW (Kd.S_reads' ac.out).2.2) ((Kd.S_reads' ac.out).2.1) A7.out) ?_; rintro e w36 ⟨b5, rfl, ho0, hb⟩; refine ⟨_, rfl, ?_⟩; replace ac := am (Kd.S_below (by (with_reducible repeat (first | apply Kd.S_alloc | apply Kd.S_drewN | apply Kd.S_drew)); exact ac.out) hb); replace ae := am (Kd.V_elder' (vT ae.out) (Kd.R_base ho0) hb); have ai := am (Kd.R_lower (Kd.R_newB ho0 (g := ab) (o := .cells #[.string ad, .string al] 55 (0, 0)) (bT aa.out)) (below_size (eTx HB.out))); replace aa := am (bB aa.out hb); replace HB := am (sTx HB.out hb); obtain ⟨bj, bk, bP⟩ := Kd.V_slice ae.out; subst bP) | ((with_reducible refine gtC 10 ?_); refine xCl 39 Tryz.func10 (list_Build.calls k _ _ aj af ar _ (cW (Kd.V_reads' ae.out).2.2) ((Kd.V_reads' ae.out).2.1) A8.out) ?_; rintro e w38 ⟨b6, rfl, ho0, hb⟩; refine ⟨_, rfl, ?_⟩; replace ac := am (Kd.S_below (by (with_reducible repeat (first | apply Kd.S_alloc | apply Kd.S_drewN | apply Kd.S_drew)); exact ac.out) hb); replace ae := am (Kd.V_elder' (vT ae.out) (Kd.R_base ho0) hb); have ag := am (Kd.R_lower (Kd.R_newB (Kd.R_new' ho0 (Kd.R_lt (rT ai.out))) (g := ab) (o := .cells #[.string ad, .string al] 55 (0, 0)) (bT aa.out)) (below_size (eTx HB.out))); replace ai := am (Kd.R_elder' (rT ai.out) (Kd.R_base ho0) hb); replace aa := am (bB aa.out hb); replace HB := am (sTx HB.out hb); obtain ⟨bl, bm, bQ⟩ := Kd.R_slice ai.out; subst bQ; obtain ⟨aH, aI, bR⟩ := Kd.R_slice ag.out; subst bR) | ((with_reducible refine gtC 20 ?_); refine xCb 45 Tryz.func20 (list_Above.calls k _ _ au _ _ af true av _ (cW (Kd.R_reads' ai.out).2.2) ((Kd.R_reads' ai.out).2.1) (cW (Kd.R_reads' ag.out).2.2) ((Kd.R_reads' ag.out).2.1) A9.out) fun w41 hb => ?_; replace ac := am (Kd.S_below (by (with_reducible repeat (first | apply Kd.S_alloc | apply Kd.S_drewN | apply Kd.S_drew)); exact ac.out) hb); replace ae := am (vB ae.out hb); replace ai := am (rB ai.out hb); replace ag := am (rB ag.out hb); replace aa := am (bB aa.out hb); replace HB := am (sTx HB.out hb)) | ((with_reducible refine gtC 23 ?_); refine xCl 51 Tryz.func23 (list_Delta.calls k _ _ au _ _ af aw ax _ (cW (Kd.R_reads' ai.out).2.2) ((Kd.R_reads' ai.out).2.1) (cW (Kd.R_reads' ag.out).2.2) ((Kd.R_reads' ag.out).2.1) A10.out) ?_; rintro e w42 ⟨b7, rfl, ho0, hb⟩; refine ⟨_, rfl, ?_⟩; replace ac := am (Kd.S_below (by (with_reducible repeat (first | apply Kd.S_alloc | apply Kd.S_drewN | apply Kd.S_drew)); exact ac.out) hb); replace ae := am (Kd.V_elder' (vT ae.out) (Kd.R_base ho0) hb); replace ai := am (rB ai.out hb); replace ag := am (rB ag.out hb); have ao := am (Kd.R_lower ho0 (below_size (eTx HB.out))); replace aa := am (bB aa.out hb); replace HB := am (sTx HB.out hb); obtain ⟨bD, bE, bF, bG⟩ := bxB aa) | ((with_reducible refine gtC 11 ?_); refine xCb 58 Tryz.func11 (list_Pick.calls k _ _ af ad ay aA _ (cW (Kd.R_reads' ag.out).2.2) ((Kd.R_reads' ag.out).2.1) A11.out) fun w44 hb => ?_; replace ac := am (Kd.S_below (by (with_reducible repeat (first | apply Kd.S_alloc | apply Kd.S_drewN | apply Kd.S_drew)); exact ac.out) hb); replace ae := am (vB ae.out hb); replace ai := am (rB ai.out hb); replace ag := am (rB ag.out hb); replace ao := am (rB ao.out hb); replace aa := am (bB aa.out hb); replace HB := am (sTx HB.out hb); obtain ⟨bH, bI, bJ, bK⟩ := bxB aa) | ((with_reducible refine gtC 31 ?_); refine xCb 65 Tryz.func31 (tally_Best.calls k _ _ aj ad aB aC _ (cW (Kd.V_reads' ae.out).2.2) ((Kd.V_reads' ae.out).2.1) A12.out) fun w46 hb => ?_; replace ac := am (Kd.S_below (by (with_reducible repeat (first | apply Kd.S_alloc | apply Kd.S_drewN | apply Kd.S_drew)); exact ac.out) hb); replace ae := am (vB ae.out hb); replace ai := am (rB ai.out hb); replace ag := am (rB ag.out hb); replace ao := am (rB ao.out hb); replace aa := am (bB aa.out hb); replace HB := am (sTx HB.out hb); obtain ⟨b8, b9, bS⟩ := Kd.R_slice ao.out; subst bS) | (go_at_call 12; (with_reducible refine (list_Check.calls k _ _ af ah _ (cW (Kd.R_reads' ag.out).2.2) ((Kd.R_reads' ag.out).2.1) A23.out).mono ?_); rintro e w48 ⟨rfl, hb⟩; replace ac := am (Kd.S_below (by (with_reducible repeat (first | apply Kd.S_alloc | apply Kd.S_drewN | apply Kd.S_drew)); exact ac.out) hb); replace ae := am (vB ae.out hb); replace ai := am (rB ai.out hb); replace ag := am (rB ag.out hb); replace ao := am (rB ao.out hb); replace aa := am (bB aa.out hb); replace HB := am (sTx HB.out hb)) | (go_at_call 18; (with_reducible refine (graftwoodlaw17_awake.calls k  ak _ A25.out).mono ?_); rintro e w49 ⟨rfl, hb⟩; replace ac := am (Kd.S_below (by (with_reducible repeat (first | apply Kd.S_alloc | apply Kd.S_drewN | apply Kd.S_drew)); exact ac.out) hb); replace ae := am (vB ae.out hb); replace ai := am (rB ai.out hb); replace ag := am (rB ag.out hb); replace ao := am (rB ao.out hb); replace aa := am (bB aa.out hb); replace HB := am (sTx HB.out hb)))
   go_ret
   exact ⟨rfF, eTx HB.out⟩
  ·have a3 := decide_eq_false c20
   have a4 : decide (aw.length ≤ 1) = false := decide_eq_false (by omega)
   clear c20
   exact absurd ((smI H).trans hR_) (by decide)
 ·have bL := beq_eq_false_iff_ne.mpr c6
  have bM := bne_iff_ne.mpr c6
  replace H := bnd H; obtain ⟨ap, bU, H⟩ := H
  obtain rfl := smI H
  go_enter Tryz.func6, Tryz.ntmps6
  try go_wp2_with (first | ((with_reducible refine gtD 3 ?_); (try (refine gate_guard (by rfl) ?_; dsimp only)); refine xBx 3 55 #[.string a1_0, .string a1_1] ?_; intro ab hg bV hbox hb; have aa := am (hbox); have bf := am ((gTx hg HB.out)); have bg := am ((gTx hg HB.out)); replace HB := am (sTx HB.out hb); clear hb hbox hg))
  replace aa := am (blk_drew aa.out)
  replace HB := am (below_drew1 HB.out)
  refine start_ (n := 6) (S := fun w' => w'.cell? ⟨ab, 0, none⟩ = some (.string a1_0) ∧ w'.cell? ⟨ab, 1, none⟩ = some (.string a1_1)) (ds := [5]) (bA 6 0) rfK rfl rfK ⟨cT aa 0, cT aa 1⟩ (fun hHeld => ?_)
  generalize bV.drew = b_ at aa HB hHeld ⊢
  refine pure_ (i := 0) (N := some 19) (v := ?_) (a' := ?_) (bA 6 1) rfl rfl rfK (fun _ _ _ h => h) (Or.inl ⟨by rfl, ?_⟩) ?_ ?_
  rotate_left
  ·intro w'
   go_simp
   with_reducible rfl
  rotate_left
  ·simp only [pS]
   rfl
  refine take_ (i := 2) (N := some 21) (v := ?_) (a' := ?_) (bA 6 5) rfl rfl rfK (fun _ _ _ h => h) (Or.inl ⟨by rfl, ?_⟩) hHeld ?_ ?_
  rotate_left
  ·rintro w' ⟨s0, s1⟩
   go_simp
   with_reducible rfl
  rotate_left
  ·simp only [pS]
   rfl
  refine one_ (i := 1) (N := some 20) (bA 6 7) rfl rfl rfK (by decide) (fun K hK => ?_)
  refine gS Tryz.func8 #[.slice A0 l0.length c0] ?_
  with_reducible refine (graftwoodlaw16_Few.calls k _ _ l0 an _ (cW (Kd.C_below HR0.out HB.out)) HC0.out A3.out).mono ?_
  rintro e ca ⟨aG, rfl, ho0, hb⟩
  refine ⟨_, rfl, ?_⟩
  have ac := am (Kd.S_lower ho0 (below_size (eTx HB.out)))
  replace aa := am (bB aa.out hb)
  replace HB := am (sTx HB.out hb)
  refine hK.out _ _ ⟨cT aa 0, cT aa 1⟩ (fun hHeld => ?_)
  clear hK K
  refine mN 20 ?_
  refine one_ (i := 3) (N := some 22) (bA 6 15) rfl rfl rfK (by decide) (fun K hK => ?_)
  refine gS Tryz.func29 #[.agg #[.string a1_0, .string a1_1]] ?_
  with_reducible refine (graftwoodlaw05_One.calls a1_0 a1_1 ad al _ A4.out).mono ?_
  rintro e aD ⟨rfl, hb⟩
  refine ⟨_, rfl, ?_⟩
  replace ac := am (Kd.S_below (by (with_reducible repeat (first | apply Kd.S_alloc | apply Kd.S_drewN | apply Kd.S_drew)); exact ac.out) hb)
  replace aa := am (bB aa.out hb)
  replace HB := am (sTx HB.out hb)
  refine hK.out _ _ ⟨cT aa 0, cT aa 1⟩ (fun hHeld => ?_)
  clear hK K
  refine mN 22 ?_
  refine pure_ (i := 4) (N := some 0) (v := ?_) (a' := ?_) (bA 6 31) rfl rfl rfK (fun _ _ _ h => h) (Or.inl ⟨by rfl, ?_⟩) ?_ ?_
  rotate_left
  ·intro w'
   go_simp
   with_reducible rfl
  rotate_left
  ·simp only [pS]
   rfl
  refine last_ (i := 5) (N := none) (bA 6 63) rfl rfl rfK (by decide) (fun K hK => ?_)
  obtain ⟨b1, bW⟩ := bxA aa
  have b2 : aD.cell? ⟨ab, 1, none⟩ = some (.string a1_1) := cT aa 1
  have bX := blk_frozen aa.out 1
  refine skip_ (w1 := ?_) (by rfl) rfl ?_ ?_
  rotate_left
  ·go_simp
   rfl
  refine hK.out _ _ ?_
  clear hK K
  refine done_ rfK ?_
  obtain ⟨bo, hW_⟩ : ∃ W_, ((aD.setCell ⟨ab, 0, none⟩ (.string ad)).setCell ⟨ab, 1, none⟩ (.string al)) = W_ := ⟨_, rfl⟩
  have n0_ : Aside0 (Kd.S k63 63 bo w.heap.size (fun _ => True) aG an) := ⟨by rw [← hW_]; (with_reducible repeat (first | apply Kd.S_alloc | apply Kd.S_drewN | apply Kd.S_drew)); exact Kd.S_mono (Kd.S_far (p := ⟨ab, 1, none⟩) (Kd.S_far (p := ⟨ab, 0, none⟩) (Kd.S_types ac.out aa.out (by decide)) (fun _ hk => hk.2) (.string ad)) (fun _ hk => hk.2) (.string al)) (fun _ hk => trivial)⟩
  have n1_ : Aside0 (bo.heap[ab]? = some (.cells #[.string ad, .string al] 55 (0, 0))) := ⟨by rw [← hW_]; exact kBk⟩
  have n2_ : Aside0 (Below w.heap.size w bo) := ⟨by rw [← hW_]; exact eTx HB.out⟩
  rw [hW_]
  clear hW_
  have ac := n0_
  have aa := n1_
  have HB := n2_
  clear n0_ n1_ n2_
  obtain ⟨bp, bq, br, bs⟩ := bxB aa
  obtain ⟨bt, bu, bv⟩ := Kd.S_slice ac.out
  subst bv
  try go_wp2_with (first | ((with_reducible refine gtC 30 ?_); refine xCl 26 Tryz.func30 (tally_Add.calls k (fun k_ => (True ∧ k_ ≠ ab)) _ _ an ad al aj az _ (Kd.S_V (Kd.S_types (ac.out) aa.out (by decide))) A5.out) ?_; rintro e cb ⟨bO, rfl, ho0, hb⟩; refine ⟨_, rfl, ?_⟩; replace ac := am (Kd.S_below (by (with_reducible repeat (first | apply Kd.S_alloc | apply Kd.S_drewN | apply Kd.S_drew)); exact ac.out) hb); have ae := am (Kd.V_lower (Kd.V_mono (ok' := fun k_ => k_ ≠ ab) ho0 (fun k_ hk_ => Or.elim hk_ (fun hs_ => hs_.2) (fun hn_ => (Kd.freshB (g := ab) (o := .cells #[.string ad, .string al] 55 (0, 0)) (bT aa.out) k_ hn_)))) (below_size (eTx HB.out))); replace aa := am (bB aa.out hb); replace HB := am (sTx HB.out hb)) | ((with_reducible refine gtC 18 ?_); refine xCb 31 Tryz.func18 (graftwoodlaw17_awake.calls k  ap _ bU.out) fun cc hb => ?_; replace ac := am (Kd.S_below (by (with_reducible repeat (first | apply Kd.S_alloc | apply Kd.S_drewN | apply Kd.S_drew)); exact ac.out) hb); replace ae := am (vB ae.out hb); replace aa := am (bB aa.out hb); replace HB := am (sTx HB.out hb)))
  go_ret
  exact ⟨rfF, eTx HB.out⟩

end Go.Proofs.YtknmfmedklfepaaGreatDoor.P
