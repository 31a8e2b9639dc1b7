-- Written by this project's own program (wip/tools/hp.py), driving the kit's print; hand texts among it. Not trusted: Lean checks it.
-- half the indentation
import Derived.Test.YtomjppafgalaoaaDoorThin
import Derived.Test.YtomjppafgalaoaaDoorP0
import Derived.Test.YtomjppafgalaoaaDoorP1
import Derived.Test.YtomjppafgalaoaaDoorP17
import Derived.Test.YtomjppafgalaoaaDoorP19
namespace Go.Proofs.YtomjppafgalaoaaDoor.P
open Go.RowKit Go.Proofs.YtomjppafgalaoaaDoorW.PrintWords Go.Proofs.YtomjppafgalaoaaDoorW.PrintLast Go.Proofs.YtomjppafgalaoaaDoorW.PrintMore
attribute [local go_sem] max2_int min2_int max_two min_two max_three min_three max_four min_four   -- for this text's walks alone
set_option linter.unusedVariables false
set_option linter.unusedSimpArgs false

attribute [local go_sem high] eqA27
/-! ### node_order: function 37 -/
def node_order.f (k : Nat) (a0_0 : ByteArray) (a0_1 : ByteArray) (a1_0 : ByteArray) (a1_1 : ByteArray) : Option (Int) := if (a0_0.toList == a1_0.toList && (a0_1.toList == a1_1.toList)) = true then (some 0) else ((version_Cmp.f k a0_1 a1_1).bind fun bt239 => ((octet_Cmp.f a0_0 a1_0).bind fun al => ((cmp_Or_int.f k (([al, bt239.1] : List Int))).bind fun ap => (some ap))))
theorem node_order.mono : ∀ a0 a1 a2 a3 k, LeO (node_order.f k a0 a1 a2 a3) (node_order.f (k + 1) a0 a1 a2 a3) := by
 intro a0 a1 a2 a3 k
 unfold node_order.f
 repeat' first
   | (with_reducible exact cmp_Or_int.mono _ _)
   | (with_reducible exact version_Cmp.mono _ _ _)
   | (with_reducible exact LeO.refl _)
   | (with_reducible exact LeO.none _)
   | (with_reducible refine LeO.ite ?_ ?_)
   | (with_reducible refine LeO.bind ?_ (fun _ => ?_))
   | exact cmp_Or_int.mono _ _
   | exact version_Cmp.mono _ _ _
   | exact LeO.none _
   | refine LeO.ite ?_ ?_
   | refine LeO.bind ?_ (fun _ => ?_)
set_option maxHeartbeats 8000000 in
set_option maxRecDepth 100000 in
theorem node_order.calls (k : Nat) (a0_0 : ByteArray) (a0_1 : ByteArray) (a1_0 : ByteArray) (a1_1 : ByteArray) (r : Int) (w : World) (h : node_order.f k a0_0 a0_1 a1_0 a1_1 = some r) :
  Calls Tryd.prog 37 #[.agg #[.string a0_0, .string a0_1], .agg #[.string a1_0, .string a1_1]] w fun e w' => e = .returned (.int .i64 r) ∧ Below w.heap.size w w' := by
 have hu27 := Tryd.underlying27
 have HB := am (Below.refl w.heap.size w)
 have H : (if (a0_0.toList == a1_0.toList && (a0_1.toList == a1_1.toList)) = true then (some 0) else ((version_Cmp.f k a0_1 a1_1).bind fun bt239 => ((octet_Cmp.f a0_0 a1_0).bind fun al => ((cmp_Or_int.f k (([al, bt239.1] : List Int))).bind fun ap => (some ap))))) = some r := h
 clear h
 by_cases c3 : (a0_0.toList == a1_0.toList && (a0_1.toList == a1_1.toList)) = true
 ·rw [if_pos c3] at H
  have aO : (a0_0.toList == a1_0.toList && (a0_1.toList == a1_1.toList)) = true := c3
  (try (have bG : decide (a0_0.toList = a1_0.toList && (a0_1.toList == a1_1.toList)) = true := by simpa using c3))
  (try (have bH : (a0_0.toList == a1_0.toList && (a0_1.toList == a1_1.toList)) = true := by simpa using c3))
  clear c3
  obtain rfl := Option.some.inj H
  go_enter Tryd.func37, Tryd.ntmps37
  go_wp2_with (first | ((with_reducible refine gate_dst (N := 2) rfl ?_); refine box_event ?hg (N := 2) ?hd (cs := #[.string a0_0, .string a0_1]) (t := 27) ?hr ?_; (case hd => rfl); (case hg => rfl); (case hr => first | (go_simp; done) | (go_simp; rfl)); intro aq hg w4 hbox hb; have af := am (hbox); have aP := am ((gT hg HB.out)); have aQ := am ((gT hg HB.out)); replace HB := am (sT HB.out hb); clear hb hbox hg) | ((with_reducible refine gate_dst (N := 3) rfl ?_); refine box_event ?hg (N := 3) ?hd (cs := #[.string a1_0, .string a1_1]) (t := 27) ?hr ?_; (case hd => rfl); (case hg => rfl); (case hr => first | (go_simp; done) | (go_simp; rfl)); intro ar hg w5 hbox hb; have ai := am (hbox); have aR := am ((gT hg HB.out)); have aU := am ((gT hg HB.out)); have an := am ((nT af.out hg)); have ao := am ((mT af.out hg)); replace af := am (bB af.out hb); replace HB := am (sT HB.out hb); clear hb hbox hg; have b5 := an.out; have b6 := ao.out; have bI : w5.cell? ⟨aq, 0, none⟩ = some (.string a0_0) := cT af 0; have bJ : w5.cell? ⟨aq, 1, none⟩ = some (.string a0_1) := cT af 1; have bK := blk_frozen af.out 0; have bL := blk_frozen af.out 1; have aI : w5.cell? ⟨ar, 0, none⟩ = some (.string a1_0) := cT ai 0; have aJ : w5.cell? ⟨ar, 1, none⟩ = some (.string a1_1) := cT ai 1; have aK := blk_frozen ai.out 0; have aL := blk_frozen ai.out 1))
  go_ret
  exact ⟨by first | rfl | (simp [errW_none, errW_some] <;> rfl) | (simp [*, errW_none, errW_some] <;> rfl), eT HB.out⟩
 ·rw [if_neg c3] at H
  have aO : (a0_0.toList == a1_0.toList && (a0_1.toList == a1_1.toList)) = false := by simpa using c3
  (try (have bG : decide (a0_0.toList = a1_0.toList && (a0_1.toList == a1_1.toList)) = false := by simpa using c3))
  (try (have bH : (a0_0.toList == a1_0.toList && (a0_1.toList == a1_1.toList)) = false := by simpa using c3))
  (try (have b7 : ¬ (a0_0.toList = a1_0.toList && (a0_1.toList == a1_1.toList)) := by simpa using c3))
  clear c3
  replace H := Option.bind_eq_some_iff.mp H
  obtain ⟨⟨au, bM⟩, A90, H⟩ := H
  replace H : ((octet_Cmp.f a0_0 a1_0).bind fun al => ((cmp_Or_int.f k (([al, au] : List Int))).bind fun ap => (some ap))) = some r := H
  have A9 := Aside0.mk A90
  clear A90
  replace H := Option.bind_eq_some_iff.mp H
  obtain ⟨al, aV, H⟩ := H
  replace H : ((cmp_Or_int.f k (([al, au] : List Int))).bind fun ap => (some ap)) = some r := H
  have A10 := Aside0.mk aV
  clear aV
  obtain ⟨aM, av⟩ : ∃ y_ : List Int, y_ = (([al, au] : List Int)) := ⟨_, rfl⟩
  replace H : ((cmp_Or_int.f k aM).bind fun ap => (some ap)) = some r := by first | (rw [av]; with_reducible exact H) | (have H2_ := (Option.bind_some _ _).symm.trans H; rw [av]; with_reducible exact H2_) | (have H2_ := (Option.bind_some _ _).symm.trans H; with_reducible exact H2_) | with_reducible exact H | (rw [av]; exact H) | exact H
  have Ny242 := Aside0.mk av
  clear av
  replace H := Option.bind_eq_some_iff.mp H
  obtain ⟨ap, aD, H⟩ := H
  replace H : (some ap) = some r := H
  have A11 := Aside0.mk aD
  clear aD
  obtain rfl := Option.some.inj H
  go_enter Tryd.func37, Tryd.ntmps37
  go_wp2_with (first | ((with_reducible refine gate_dst (N := 2) rfl ?_); refine box_event ?hg (N := 2) ?hd (cs := #[.string a0_0, .string a0_1]) (t := 27) ?hr ?_; (case hd => rfl); (case hg => rfl); (case hr => first | (go_simp; done) | (go_simp; rfl)); intro aq hg w12 hbox hb; have af := am (hbox); have aP := am ((gT hg HB.out)); have aQ := am ((gT hg HB.out)); replace HB := am (sT HB.out hb); clear hb hbox hg) | ((with_reducible refine gate_dst (N := 3) rfl ?_); refine box_event ?hg (N := 3) ?hd (cs := #[.string a1_0, .string a1_1]) (t := 27) ?hr ?_; (case hd => rfl); (case hg => rfl); (case hr => first | (go_simp; done) | (go_simp; rfl)); intro ar hg w13 hbox hb; have ai := am (hbox); have aR := am ((gT hg HB.out)); have aU := am ((gT hg HB.out)); have an := am ((nT af.out hg)); have ao := am ((mT af.out hg)); replace af := am (bB af.out hb); replace HB := am (sT HB.out hb); clear hb hbox hg; have bZ := an.out; have b0 := ao.out; have a5 : w13.cell? ⟨aq, 0, none⟩ = some (.string a0_0) := cT af 0; have a6 : w13.cell? ⟨aq, 1, none⟩ = some (.string a0_1) := cT af 1; have a7 := blk_frozen af.out 0; have a8 := blk_frozen af.out 1; have a9 : w13.cell? ⟨ar, 0, none⟩ = some (.string a1_0) := cT ai 0; have a_ : w13.cell? ⟨ar, 1, none⟩ = some (.string a1_1) := cT ai 1; have bb := blk_frozen ai.out 0; have bc := blk_frozen ai.out 1) | ((with_reducible refine gate_callee (f := 42) rfl ?_); refine gL (some 15) Tryd.func42 #[.string a0_1, .string a1_1] ?_; (with_reducible refine (version_Cmp.calls k a0_1 a1_1 au bM _ A9.out).mono ?_); rintro e w17 ⟨rfl, hb⟩; refine ⟨_, rfl, ?_⟩; replace af := am (bB af.out hb); replace ai := am (bB ai.out hb); replace HB := am (sT HB.out hb); (try clear hb); (try clear hb2); (try clear hk); (try clear hi); have be : w17.cell? ⟨aq, 0, none⟩ = some (.string a0_0) := cT af 0; have bf : w17.cell? ⟨aq, 1, none⟩ = some (.string a0_1) := cT af 1; have bg := blk_frozen af.out 0; have bh := blk_frozen af.out 1; have bi : w17.cell? ⟨ar, 0, none⟩ = some (.string a1_0) := cT ai 0; have bj : w17.cell? ⟨ar, 1, none⟩ = some (.string a1_1) := cT ai 1; have bk := blk_frozen ai.out 0; have bl := blk_frozen ai.out 1) | ((with_reducible refine gate_callee (f := 44) rfl ?_); refine gL (some 22) Tryd.func44 #[.string a0_0, .string a1_0] ?_; (with_reducible refine (octet_Cmp.calls a0_0 a1_0 al _ A10.out).mono ?_); rintro e w' ⟨rfl, ⟨nd, rfl⟩⟩; refine ⟨_, rfl, ?_⟩) | ((with_reducible refine gate_dst (N := 24) rfl ?_); refine Kd.R_lit (Kd.int .i64) _ 3 ?hg (N := 24) ?hd (xs := ([al, au] : List Int)) (inner := [.int .i64 al, .int .i64 au]) (ok := fun _ => True) (okp := fun _ => True) ?hr ?hp (fun _ hk => hk) trivial (Below.refl _ _) (Nat.le_refl _) (by simp) ?_; (case hd => rfl); (case hg => rfl); (case hr => first | (go_simp; done) | (go_simp; rfl)); (case hp => exact (Reps.one (show Kd.M (Kd.int .i64) _ _ _ al [.int .i64 al] from rfl) (Reps.one (show Kd.M (Kd.int .i64) _ _ _ au [.int .i64 au] from rfl) (Reps.none _ _)))); intro b8 w20 ho21 hb hg_ hnew_; clear hg_ hnew_; (first | rw [← Ny242.out] at ho21 | (simp only [Int.reduceToNat] at ho21; rw [← Ny242.out] at ho21)); have aE := am (Kd.R_lower ho21 (below_size (eT HB.out))); replace af := am (bB af.out hb); replace ai := am (bB ai.out hb); replace HB := am (sT HB.out hb); clear hb ho21; obtain ⟨bN, bO, bP⟩ := Kd.R_slice aE.out; subst bP) | ((with_reducible refine gate_callee (f := 43) rfl ?_); refine gL (some 25) Tryd.func43 #[.slice bN aM.length bO] ?_; (with_reducible refine (cmp_Or_int.calls k _ _ aM ap _ ?side1 ?side2 A11.out).mono ?_); (case side1 => repeat (first | exact (Kd.R_reads' aE.out).2.2 | (with_reducible refine Kd.C_alloc ?_ _) | (with_reducible refine Kd.C_drewN ?_ _) | (with_reducible refine Kd.C_drew ?_))); (case side2 => exact (Kd.R_reads' aE.out).2.1); rintro e w' ⟨rfl, ⟨nd, rfl⟩⟩; refine ⟨_, rfl, ?_⟩))
  go_ret
  exact ⟨by first | rfl | (simp [errW_none, errW_some] <;> rfl) | (simp [*, errW_none, errW_some] <;> rfl), eT HB.out⟩

/-! ### node_Check: function 24 -/
def node_Check.l0 : Nat → List (S27) → List (S27) → Int → Int → Option (Int)
 | 0, _, _, _, _ => none
 | k + 1, x0, x5, x6, x7 => if x7 < x6 then (if 0 ≤ x7 then (if x7 < (x5.length : Int) then ((node_May.f k ((rd_T27 x5 x7).f0) ((rd_T27 x5 x7).f1)).bind fun aH => (if aH = true then (if x7 > 0 then (if 0 ≤ (wrap64 (x7 - 1)) then (if (wrap64 (x7 - 1)) < (x0.length : Int) then ((node_order.f k ((rd_T27 x0 (wrap64 (x7 - 1))).f0) ((rd_T27 x0 (wrap64 (x7 - 1))).f1) ((rd_T27 x5 x7).f0) ((rd_T27 x5 x7).f1)).bind fun ak => (if ak ≥ 0 then (some 1) else (node_Check.l0 k x0 x5 x6 (wrap64 (x7 + 1))))) else (none)) else (none)) else (node_Check.l0 k x0 x5 x6 (wrap64 (x7 + 1)))) else (some 1))) else (none)) else (none)) else (some 0)
def node_Check.f (k : Nat) (l0 : List (S27)) : Option (Int) := node_Check.l0 k l0 l0 (l0.length : Int) 0
theorem node_Check.mono_l : ∀ k, (∀ y0 y1 y2 y3, LeO (node_Check.l0 k y0 y1 y2 y3) (node_Check.l0 (k + 1) y0 y1 y2 y3))
 | 0 => fun _ _ _ _ r h => by simp [node_Check.l0] at h
 | k + 1 => by
  have ih0 := node_Check.mono_l k
  ·intro y0 y1 y2 y3
   unfold node_Check.l0
   repeat' first
   | (with_reducible exact ih0 _ _ _ _)
   | (with_reducible exact node_May.mono _ _ _)
   | (with_reducible exact node_order.mono _ _ _ _ _)
   | (with_reducible exact LeO.refl _)
   | (with_reducible exact LeO.none _)
   | (with_reducible refine LeO.ite ?_ ?_)
   | (with_reducible refine LeO.bind ?_ (fun _ => ?_))
   | exact ih0 _ _ _ _
   | exact node_May.mono _ _ _
   | exact node_order.mono _ _ _ _ _
   | exact LeO.none _
   | refine LeO.ite ?_ ?_
   | refine LeO.bind ?_ (fun _ => ?_)
theorem node_Check.mono : ∀ a0 k, LeO (node_Check.f k a0) (node_Check.f (k + 1) a0) := by
 intro a0 k
 have ih0 := node_Check.mono_l k
 unfold node_Check.f
 repeat' first
   | (with_reducible exact ih0 _ _ _ _)
   | (with_reducible exact node_May.mono _ _ _)
   | (with_reducible exact node_order.mono _ _ _ _ _)
   | (with_reducible exact LeO.refl _)
   | (with_reducible exact LeO.none _)
   | (with_reducible refine LeO.ite ?_ ?_)
   | (with_reducible refine LeO.bind ?_ (fun _ => ?_))
   | exact ih0 _ _ _ _
   | exact node_May.mono _ _ _
   | exact node_order.mono _ _ _ _ _
   | exact LeO.none _
   | refine LeO.ite ?_ ?_
   | refine LeO.bind ?_ (fun _ => ?_)
def node_Check.T4 : Bool × List (List Nat × List Nat) := (true, [([], []), ([0], [0]), ([1], [1]), ([2, 1], [2]), ([3], [3]), ([4, 3], [3, 4]), ([5, 3, 3], [3, 5]), ([6], [6]), ([6], [6]), ([8, 6], [6, 8]), ([7, 9, 6], [6, 7, 9]), ([10, 6], [6, 10]), ([6], [6]), ([11, 12, 6, 6], [6, 11, 12]), ([13, 6], [6, 13]), ([6, 14, 3], [3, 6, 14]), ([3, 15], [3, 15])])
def node_Check.B4 : List Nat := [0, 1, 3, 7, 15, 31, 63, 127, 127, 383, 1023, 2047, 127, 8191, 16383, 32767, 65535]
theorem node_Check.tab4 : rtab .any (opsOf Tryd.f24 4) = node_Check.T4 := by kernel_rfl
theorem node_Check.bits4 : waitsOk node_Check.T4.2 node_Check.B4 = true := by kernel_rfl
set_option maxHeartbeats 8000000 in
set_option maxRecDepth 100000 in
theorem node_Check.calls (k : Nat) (A0 : Option Addr) (c0 : Nat) (l0 : List (S27)) (r : Int) (w : World) (hr0 : Kd.C k27 w A0 l0.length l0) (hc0 : l0.length ≤ c0) (h : node_Check.f k l0 = some r) :
  Calls Tryd.prog 24 #[.slice A0 l0.length c0] w fun e w' => e = .returned (.int .i64 r) ∧ Below w.heap.size w w' := by
 have hu27 := Tryd.underlying27
 have HR0 := Aside0.mk hr0
 have HC0 := Aside0.mk hc0
 clear hr0 hc0
 have HB := am (Below.refl w.heap.size w)
 have H : (node_Check.l0 k l0 l0 (l0.length : Int) 0) = some r := h
 clear h
 have H' := Aside0.mk H
 clear H
 go_enter Tryd.func24, Tryd.ntmps24
 go_wp2
 go_loopg [7] k (fun kq v7 w' => ∃ (aa : Int), v7 = .int .i64 aa ∧ Aside0 (node_Check.l0 kq l0 l0 (l0.length : Int) aa = some r) ∧ Aside0 (kq ≤ k) ∧ Aside0 (Below w.heap.size w w'))
 case atStart => exact ⟨(0), (by first | rfl | (simp; done) | (simp [*]; done)), H', ⟨Nat.le_refl _⟩, ⟨eT HB.out⟩⟩
 case round =>
  clear H'
  obtain ⟨aa, rfl, HA, HK1, HB⟩ := hrel
  cases gk with
  | zero => exact absurd HA.out (by simp [node_Check.l0])
  | succ k1 =>
   have H := HA.out
   clear HA
   simp only [node_Check.l0] at H
   by_cases c2 : aa < (l0.length : Int)
   ·rw [if_pos c2] at H
    have aN : decide (aa < (l0.length : Int)) = true := decide_eq_true c2
    clear c2
    by_cases c3 : 0 ≤ aa
    ·rw [if_pos c3] at H
     have aO : decide (0 ≤ aa) = true := decide_eq_true c3
     clear c3
     by_cases c4 : aa < (l0.length : Int)
     ·rw [if_pos c4] at H
      have b9 : decide (aa < (l0.length : Int)) = true := decide_eq_true c4
      clear c4
      replace H := Option.bind_eq_some_iff.mp H
      obtain ⟨aH, A50, H⟩ := H
      replace H : (if aH = true then (if aa > 0 then (if 0 ≤ (wrap64 (aa - 1)) then (if (wrap64 (aa - 1)) < (l0.length : Int) then ((node_order.f k1 ((rd_T27 l0 (wrap64 (aa - 1))).f0) ((rd_T27 l0 (wrap64 (aa - 1))).f1) ((rd_T27 l0 aa).f0) ((rd_T27 l0 aa).f1)).bind fun ak => (if ak ≥ 0 then (some 1) else (node_Check.l0 k1 l0 l0 (l0.length : Int) (wrap64 (aa + 1))))) else (none)) else (none)) else (node_Check.l0 k1 l0 l0 (l0.length : Int) (wrap64 (aa + 1)))) else (some 1)) = some r := H
      have A5 := Aside0.mk A50
      clear A50
      by_cases c6 : aH = true
      ·subst c6
       have H1 : (if aa > 0 then (if 0 ≤ (wrap64 (aa - 1)) then (if (wrap64 (aa - 1)) < (l0.length : Int) then ((node_order.f k1 ((rd_T27 l0 (wrap64 (aa - 1))).f0) ((rd_T27 l0 (wrap64 (aa - 1))).f1) ((rd_T27 l0 aa).f0) ((rd_T27 l0 aa).f1)).bind fun ak => (if ak ≥ 0 then (some 1) else (node_Check.l0 k1 l0 l0 (l0.length : Int) (wrap64 (aa + 1))))) else (none)) else (none)) else (node_Check.l0 k1 l0 l0 (l0.length : Int) (wrap64 (aa + 1)))) = some r := by rw [if_pos rfl] at H; exact H
       clear H
       have H := H1
       clear H1
       by_cases c7 : aa > 0
       ·rw [if_pos c7] at H
        have bQ : decide (0 < aa) = true := decide_eq_true c7
        clear c7
        obtain ⟨ji8, ax⟩ : ∃ j_ : Int, (wrap64 (aa - 1)) = j_ := ⟨_, rfl⟩
        replace H : (if 0 ≤ (ji8) then (if (ji8) < (l0.length : Int) then ((node_order.f k1 ((rd_T27 l0 (ji8)).f0) ((rd_T27 l0 (ji8)).f1) ((rd_T27 l0 aa).f0) ((rd_T27 l0 aa).f1)).bind fun ak => (if ak ≥ 0 then (some 1) else (node_Check.l0 k1 l0 l0 (l0.length : Int) (wrap64 (aa + 1))))) else (none)) else (none)) = some r := by first | (rw [ax] at H; exact H) | (simp only [ax] at H ⊢; exact H)
        (try rw [ax] at A5)
        have b1 : (IntKind.i64.wrap (aa - 1)) = ji8 := (i64_w _).trans ax
        by_cases c9 : 0 ≤ (ji8)
        ·rw [if_pos c9] at H
         have b_ : decide (0 ≤ (ji8)) = true := decide_eq_true c9
         clear c9
         by_cases c10 : (ji8) < (l0.length : Int)
         ·rw [if_pos c10] at H
          have b2 : decide ((ji8) < (l0.length : Int)) = true := decide_eq_true c10
          clear c10
          replace H := Option.bind_eq_some_iff.mp H
          obtain ⟨ak, aD, H⟩ := H
          replace H : (if ak ≥ 0 then (some 1) else (node_Check.l0 k1 l0 l0 (l0.length : Int) (wrap64 (aa + 1)))) = some r := H
          have A11 := Aside0.mk aD
          clear aD
          by_cases c12 : ak ≥ 0
          ·rw [if_pos c12] at H
           have aW : decide (0 ≤ ak) = true := decide_eq_true c12
           clear c12
           obtain rfl := Option.some.inj H
           have p246 : 0 ≤ (aa : Int) := of_decide_eq_true (by first | (with_reducible assumption) | assumption)
           have q246 : aa < (l0.length : Int) := of_decide_eq_true (by first | (with_reducible assumption) | assumption)
           obtain ⟨ad246, e246, ad, ae⟩ := at_T27 HR0.out aa p246 q246
           cases e246
           replace ad := (HB.out.cell (World.block_lt_of_cell? w _ ad)).trans ad
           replace ae := (HB.out.cell (World.block_lt_of_cell? w _ ae)).trans ae
           replace p246 := eq_true p246
           replace q246 := eq_true q246
           try go_wp2_with (first | ((with_reducible refine gate_dst (N := 4) rfl ?_); refine box_event ?hg (N := 4) ?hd (cs := #[.string (⟨#[]⟩ : ByteArray), .string (⟨#[]⟩ : ByteArray)]) (t := 27) ?hr ?_; (case hd => rfl); (case hg => rfl); (case hr => first | (go_simp; done) | (go_simp; rfl)); intro ac hg w13 hbox hb; have ab := am (hbox); have aF := am ((gT hg HB.out)); have aG := am ((gT hg HB.out)); replace HB := am (sT HB.out hb); clear hb hbox hg; have bm : w13.cell? ⟨ac, 0, none⟩ = some (.string (⟨#[]⟩ : ByteArray)) := cT ab 0; have bo : w13.cell? ⟨ac, 1, none⟩ = some (.string (⟨#[]⟩ : ByteArray)) := cT ab 1; have bp := blk_frozen ab.out 0; have bq := blk_frozen ab.out 1))
           have n0_ : Aside0 (((w13.setCell ⟨ac, 0, none⟩ (.string ((rd_T27 l0 aa).f0))).setCell ⟨ac, 1, none⟩ (.string ((rd_T27 l0 aa).f1))).heap[ac]? = some (.cells #[.string ((rd_T27 l0 aa).f0), .string ((rd_T27 l0 aa).f1)] 27 (0, 0))) := ⟨by (with_reducible repeat (first | apply bn | apply bd | apply ba)); refine blk_put (cs := #[.string ((rd_T27 l0 aa).f0), .string (⟨#[]⟩ : ByteArray)]) ?_ 1 _ rfl; (with_reducible repeat (first | apply bn | apply bd | apply ba)); refine blk_put (cs := #[.string (⟨#[]⟩ : ByteArray), .string (⟨#[]⟩ : ByteArray)]) ?_ 0 _ rfl; exact bT ab.out⟩
           have n1_ : Aside0 (Below w.heap.size w ((w13.setCell ⟨ac, 0, none⟩ (.string ((rd_T27 l0 aa).f0))).setCell ⟨ac, 1, none⟩ (.string ((rd_T27 l0 aa).f1)))) := ⟨by repeat (first | (with_reducible first | exact HB.out | apply pA | apply pN | apply pD | refine eU ?_ (by assumption)) | exact HB.out)⟩
           (try clear ab)
           (try clear HB)
           generalize ((w13.setCell ⟨ac, 0, none⟩ (.string ((rd_T27 l0 aa).f0))).setCell ⟨ac, 1, none⟩ (.string ((rd_T27 l0 aa).f1))) = w15 at n0_ n1_ ⊢
           have ab := n0_
           have HB := n1_
           clear n0_ n1_
           replace ab := am (blk_drew ab.out)
           replace HB := am (below_drew1 HB.out)
           have p249 : 0 ≤ ((ji8) : Int) := of_decide_eq_true (by first | (with_reducible assumption) | assumption)
           have q249 : (ji8) < (l0.length : Int) := of_decide_eq_true (by first | (with_reducible assumption) | assumption)
           obtain ⟨ad249, e249, ag, ah⟩ := at_T27 HR0.out (ji8) p249 q249
           have hw249_1 := ah
           have hw249_0 := ag
           obtain rfl : ad246 = ad249 := (by injection e249)
           replace ag := (HB.out.cell (World.block_lt_of_cell? w _ ag)).trans ag
           replace ah := (HB.out.cell (World.block_lt_of_cell? w _ ah)).trans ah
           replace p249 := eq_true p249
           replace q249 := eq_true q249
           refine start_ (n := 17) (S := fun w' => w'.cell? ⟨ac, 0, none⟩ = some (.string ((rd_T27 l0 aa).f0)) ∧ w'.cell? ⟨ac, 1, none⟩ = some (.string ((rd_T27 l0 aa).f1)) ∧ w'.cell? (ad246.add (((ji8)).toNat * 2)) = some (.string ((rd_T27 l0 (ji8)).f0)) ∧ w'.cell? ⟨(ad246.add (((ji8)).toNat * 2)).block, (ad246.add (((ji8)).toNat * 2)).off + 1, none⟩ = some (.string ((rd_T27 l0 (ji8)).f1))) (ds := []) (bA 17 0) (by kernel_rfl) rfl (by kernel_rfl) ⟨cT ab 0, cT ab 1, ((HB.out.cell (World.block_lt_of_cell? w _ hw249_0)).trans hw249_0), ((HB.out.cell (World.block_lt_of_cell? w _ hw249_1)).trans hw249_1)⟩ (fun hHeld => ?_); refine with_tabW node_Check.tab4 node_Check.bits4 (fun HT_ HW_ => ?_)
           generalize w15.drew = w16 at ab HB ag ah hHeld ⊢
           refine tT 0 12 (bA 17 1) HT_.out HW_.out hHeld ?_ (hy := by rintro w' ⟨s0, s1, s2, s3⟩; go_simp; with_reducible rfl)
           refine oT 1 (bA 17 3) HT_.out fun K hK => ?_
           refine gS Tryd.func27 #[.agg #[.string ((rd_T27 l0 aa).f0), .string ((rd_T27 l0 aa).f1)]] ?_
           with_reducible refine (node_May.calls k1 ((rd_T27 l0 aa).f0) ((rd_T27 l0 aa).f1) true _ A5.out).mono ?_
           rintro e w17 ⟨rfl, hb⟩
           refine ⟨_, rfl, ?_⟩
           replace ab := am (bB ab.out hb)
           replace HB := am (sT HB.out hb)
           (try clear hb)
           (try clear hb2)
           (try clear hk)
           (try clear hi)
           refine hK.out _ _ ⟨cT ab 0, cT ab 1, ((HB.out.cell (World.block_lt_of_cell? w _ hw249_0)).trans hw249_0), ((HB.out.cell (World.block_lt_of_cell? w _ hw249_1)).trans hw249_1)⟩ (fun hHeld => ?_)
           clear hK K
           refine mN 13 ?_
           refine pT 2 14 (bA 17 7) HT_.out ?_
           refine pT 3 15 (bA 17 15) HT_.out ?_
           refine pT 4 16 (bA 17 31) HT_.out ?_
           refine pT 5 17 (bA 17 63) HT_.out ?_
           refine pT 6 18 (bA 17 127) HT_.out ?_
           refine pT 7 19 (bA 17 255) HT_.out ?_
           refine pT 8 20 (bA 17 511) HT_.out ?_
           refine pT 9 21 (bA 17 1023) HT_.out ?_
           refine pT 10 22 (bA 17 2047) HT_.out ?_
           refine tT 11 23 (bA 17 4095) HT_.out HW_.out hHeld ?_ (hy := by rintro w' ⟨s0, s1, s2, s3⟩; go_simp; with_reducible rfl)
           refine tT 12 24 (bA 17 8191) HT_.out HW_.out hHeld ?_ (hy := by rintro w' ⟨s0, s1, s2, s3⟩; go_simp; with_reducible rfl)
           refine oT 13 (bA 17 16383) HT_.out fun K hK => ?_
           refine goes_ Tryd.func37 (by kernel_rfl) rfl #[.agg #[.string ((rd_T27 l0 (ji8)).f0), .string ((rd_T27 l0 (ji8)).f1)], .agg #[.string ((rd_T27 l0 aa).f0), .string ((rd_T27 l0 aa).f1)]] (by rfl) rfl rfl (by (try simp only [List.map_toArray, List.map_cons, List.map_nil]); first | done | (simp only [ax]; rfl) | rfl | (simp only [List.length_drop, List.length_take]; rfl)) ?_
           with_reducible refine (node_order.calls k1 ((rd_T27 l0 (ji8)).f0) ((rd_T27 l0 (ji8)).f1) ((rd_T27 l0 aa).f0) ((rd_T27 l0 aa).f1) ak _ A11.out).mono ?_
           rintro e w18 ⟨rfl, hb⟩
           refine ⟨_, rfl, ?_⟩
           replace ab := am (bB ab.out hb)
           replace HB := am (sT HB.out hb)
           (try clear hb)
           (try clear hb2)
           (try clear hk)
           (try clear hi)
           refine hK.out _ _ ⟨cT ab 0, cT ab 1, ((HB.out.cell (World.block_lt_of_cell? w _ hw249_0)).trans hw249_0), ((HB.out.cell (World.block_lt_of_cell? w _ hw249_1)).trans hw249_1)⟩ (fun hHeld => ?_)
           clear hK K
           refine mN 25 ?_
           refine pT 14 26 (bA 17 32767) HT_.out ?_
           refine pT 15 27 (bA 17 65535) HT_.out ?_
           refine pT 16 28 (bA 17 131071) HT_.out ?_
           refine done_ (done_of HT_.out (by kernel_rfl)) ?_
           try go_wp2
           go_ret
           exact ⟨by first | rfl | (simp [errW_none, errW_some] <;> rfl) | (simp only [← ax]; first | rfl | (simp [errW_none, errW_some] <;> rfl)) | (simp [*, errW_none, errW_some] <;> rfl), eT HB.out⟩
          ·rw [if_neg c12] at H
           have aW : decide (0 ≤ ak) = false := decide_eq_false c12
           clear c12
           have H' := Aside0.mk H
           clear H
           have p246 : 0 ≤ (aa : Int) := of_decide_eq_true (by first | (with_reducible assumption) | assumption)
           have q246 : aa < (l0.length : Int) := of_decide_eq_true (by first | (with_reducible assumption) | assumption)
           obtain ⟨ad246, e246, ad, ae⟩ := at_T27 HR0.out aa p246 q246
           cases e246
           replace ad := (HB.out.cell (World.block_lt_of_cell? w _ ad)).trans ad
           replace ae := (HB.out.cell (World.block_lt_of_cell? w _ ae)).trans ae
           replace p246 := eq_true p246
           replace q246 := eq_true q246
           try go_wp2_with (first | ((with_reducible refine gate_dst (N := 4) rfl ?_); refine box_event ?hg (N := 4) ?hd (cs := #[.string (⟨#[]⟩ : ByteArray), .string (⟨#[]⟩ : ByteArray)]) (t := 27) ?hr ?_; (case hd => rfl); (case hg => rfl); (case hr => first | (go_simp; done) | (go_simp; rfl)); intro ac hg w19 hbox hb; have ab := am (hbox); have aF := am ((gT hg HB.out)); have aG := am ((gT hg HB.out)); replace HB := am (sT HB.out hb); clear hb hbox hg; have br : w19.cell? ⟨ac, 0, none⟩ = some (.string (⟨#[]⟩ : ByteArray)) := cT ab 0; have bs : w19.cell? ⟨ac, 1, none⟩ = some (.string (⟨#[]⟩ : ByteArray)) := cT ab 1; have bt := blk_frozen ab.out 0; have bu := blk_frozen ab.out 1))
           have n0_ : Aside0 (((w19.setCell ⟨ac, 0, none⟩ (.string ((rd_T27 l0 aa).f0))).setCell ⟨ac, 1, none⟩ (.string ((rd_T27 l0 aa).f1))).heap[ac]? = some (.cells #[.string ((rd_T27 l0 aa).f0), .string ((rd_T27 l0 aa).f1)] 27 (0, 0))) := ⟨by (with_reducible repeat (first | apply bn | apply bd | apply ba)); refine blk_put (cs := #[.string ((rd_T27 l0 aa).f0), .string (⟨#[]⟩ : ByteArray)]) ?_ 1 _ rfl; (with_reducible repeat (first | apply bn | apply bd | apply ba)); refine blk_put (cs := #[.string (⟨#[]⟩ : ByteArray), .string (⟨#[]⟩ : ByteArray)]) ?_ 0 _ rfl; exact bT ab.out⟩
           have n1_ : Aside0 (Below w.heap.size w ((w19.setCell ⟨ac, 0, none⟩ (.string ((rd_T27 l0 aa).f0))).setCell ⟨ac, 1, none⟩ (.string ((rd_T27 l0 aa).f1)))) := ⟨by repeat (first | (with_reducible first | exact HB.out | apply pA | apply pN | apply pD | refine eU ?_ (by assumption)) | exact HB.out)⟩
           (try clear ab)
           (try clear HB)
           generalize ((w19.setCell ⟨ac, 0, none⟩ (.string ((rd_T27 l0 aa).f0))).setCell ⟨ac, 1, none⟩ (.string ((rd_T27 l0 aa).f1))) = w21 at n0_ n1_ ⊢
           have ab := n0_
           have HB := n1_
           clear n0_ n1_
           replace ab := am (blk_drew ab.out)
           replace HB := am (below_drew1 HB.out)
           have p249 : 0 ≤ ((ji8) : Int) := of_decide_eq_true (by first | (with_reducible assumption) | assumption)
           have q249 : (ji8) < (l0.length : Int) := of_decide_eq_true (by first | (with_reducible assumption) | assumption)
           obtain ⟨ad249, e249, ag, ah⟩ := at_T27 HR0.out (ji8) p249 q249
           have hw249_1 := ah
           have hw249_0 := ag
           obtain rfl : ad246 = ad249 := (by injection e249)
           replace ag := (HB.out.cell (World.block_lt_of_cell? w _ ag)).trans ag
           replace ah := (HB.out.cell (World.block_lt_of_cell? w _ ah)).trans ah
           replace p249 := eq_true p249
           replace q249 := eq_true q249
           refine start_ (n := 17) (S := fun w' => w'.cell? ⟨ac, 0, none⟩ = some (.string ((rd_T27 l0 aa).f0)) ∧ w'.cell? ⟨ac, 1, none⟩ = some (.string ((rd_T27 l0 aa).f1)) ∧ w'.cell? (ad246.add (((ji8)).toNat * 2)) = some (.string ((rd_T27 l0 (ji8)).f0)) ∧ w'.cell? ⟨(ad246.add (((ji8)).toNat * 2)).block, (ad246.add (((ji8)).toNat * 2)).off + 1, none⟩ = some (.string ((rd_T27 l0 (ji8)).f1))) (ds := []) (bA 17 0) (by kernel_rfl) rfl (by kernel_rfl) ⟨cT ab 0, cT ab 1, ((HB.out.cell (World.block_lt_of_cell? w _ hw249_0)).trans hw249_0), ((HB.out.cell (World.block_lt_of_cell? w _ hw249_1)).trans hw249_1)⟩ (fun hHeld => ?_); refine with_tabW node_Check.tab4 node_Check.bits4 (fun HT_ HW_ => ?_)
           generalize w21.drew = w22 at ab HB ag ah hHeld ⊢
           refine tT 0 12 (bA 17 1) HT_.out HW_.out hHeld ?_ (hy := by rintro w' ⟨s0, s1, s2, s3⟩; go_simp; with_reducible rfl)
           refine oT 1 (bA 17 3) HT_.out fun K hK => ?_
           refine gS Tryd.func27 #[.agg #[.string ((rd_T27 l0 aa).f0), .string ((rd_T27 l0 aa).f1)]] ?_
           with_reducible refine (node_May.calls k1 ((rd_T27 l0 aa).f0) ((rd_T27 l0 aa).f1) true _ A5.out).mono ?_
           rintro e w23 ⟨rfl, hb⟩
           refine ⟨_, rfl, ?_⟩
           replace ab := am (bB ab.out hb)
           replace HB := am (sT HB.out hb)
           (try clear hb)
           (try clear hb2)
           (try clear hk)
           (try clear hi)
           refine hK.out _ _ ⟨cT ab 0, cT ab 1, ((HB.out.cell (World.block_lt_of_cell? w _ hw249_0)).trans hw249_0), ((HB.out.cell (World.block_lt_of_cell? w _ hw249_1)).trans hw249_1)⟩ (fun hHeld => ?_)
           clear hK K
           refine mN 13 ?_
           refine pT 2 14 (bA 17 7) HT_.out ?_
           refine pT 3 15 (bA 17 15) HT_.out ?_
           refine pT 4 16 (bA 17 31) HT_.out ?_
           refine pT 5 17 (bA 17 63) HT_.out ?_
           refine pT 6 18 (bA 17 127) HT_.out ?_
           refine pT 7 19 (bA 17 255) HT_.out ?_
           refine pT 8 20 (bA 17 511) HT_.out ?_
           refine pT 9 21 (bA 17 1023) HT_.out ?_
           refine pT 10 22 (bA 17 2047) HT_.out ?_
           refine tT 11 23 (bA 17 4095) HT_.out HW_.out hHeld ?_ (hy := by rintro w' ⟨s0, s1, s2, s3⟩; go_simp; with_reducible rfl)
           refine tT 12 24 (bA 17 8191) HT_.out HW_.out hHeld ?_ (hy := by rintro w' ⟨s0, s1, s2, s3⟩; go_simp; with_reducible rfl)
           refine oT 13 (bA 17 16383) HT_.out fun K hK => ?_
           refine goes_ Tryd.func37 (by kernel_rfl) rfl #[.agg #[.string ((rd_T27 l0 (ji8)).f0), .string ((rd_T27 l0 (ji8)).f1)], .agg #[.string ((rd_T27 l0 aa).f0), .string ((rd_T27 l0 aa).f1)]] (by rfl) rfl rfl (by (try simp only [List.map_toArray, List.map_cons, List.map_nil]); first | done | (simp only [ax]; rfl) | rfl | (simp only [List.length_drop, List.length_take]; rfl)) ?_
           with_reducible refine (node_order.calls k1 ((rd_T27 l0 (ji8)).f0) ((rd_T27 l0 (ji8)).f1) ((rd_T27 l0 aa).f0) ((rd_T27 l0 aa).f1) ak _ A11.out).mono ?_
           rintro e w24 ⟨rfl, hb⟩
           refine ⟨_, rfl, ?_⟩
           replace ab := am (bB ab.out hb)
           replace HB := am (sT HB.out hb)
           (try clear hb)
           (try clear hb2)
           (try clear hk)
           (try clear hi)
           refine hK.out _ _ ⟨cT ab 0, cT ab 1, ((HB.out.cell (World.block_lt_of_cell? w _ hw249_0)).trans hw249_0), ((HB.out.cell (World.block_lt_of_cell? w _ hw249_1)).trans hw249_1)⟩ (fun hHeld => ?_)
           clear hK K
           refine mN 25 ?_
           refine pT 14 26 (bA 17 32767) HT_.out ?_
           refine pT 15 27 (bA 17 65535) HT_.out ?_
           refine pT 16 28 (bA 17 131071) HT_.out ?_
           refine done_ (done_of HT_.out (by kernel_rfl)) ?_
           try go_wp2
           go_roundg k1
           case measure => have := HK1.out; omega
           case rel => exact ⟨(wrap64 (aa + 1)), (by first | rfl | (simp; done) | (simp [*]; done)), H', ⟨by have := HK1.out; omega⟩, ⟨eT HB.out⟩⟩
         ·rw [if_neg c10] at H
          exact absurd H (by simp)
        ·rw [if_neg c9] at H
         exact absurd H (by simp)
       ·rw [if_neg c7] at H
        have bQ : decide (0 < aa) = false := decide_eq_false c7
        clear c7
        have H' := Aside0.mk H
        clear H
        have p246 : 0 ≤ (aa : Int) := of_decide_eq_true (by first | (with_reducible assumption) | assumption)
        have q246 : aa < (l0.length : Int) := of_decide_eq_true (by first | (with_reducible assumption) | assumption)
        obtain ⟨ad246, e246, ad, ae⟩ := at_T27 HR0.out aa p246 q246
        cases e246
        replace ad := (HB.out.cell (World.block_lt_of_cell? w _ ad)).trans ad
        replace ae := (HB.out.cell (World.block_lt_of_cell? w _ ae)).trans ae
        replace p246 := eq_true p246
        replace q246 := eq_true q246
        try go_wp2_with (first | ((with_reducible refine gate_dst (N := 4) rfl ?_); refine box_event ?hg (N := 4) ?hd (cs := #[.string (⟨#[]⟩ : ByteArray), .string (⟨#[]⟩ : ByteArray)]) (t := 27) ?hr ?_; (case hd => rfl); (case hg => rfl); (case hr => first | (go_simp; done) | (go_simp; rfl)); intro ac hg w25 hbox hb; have ab := am (hbox); have aF := am ((gT hg HB.out)); have aG := am ((gT hg HB.out)); replace HB := am (sT HB.out hb); clear hb hbox hg; have bv : w25.cell? ⟨ac, 0, none⟩ = some (.string (⟨#[]⟩ : ByteArray)) := cT ab 0; have bw : w25.cell? ⟨ac, 1, none⟩ = some (.string (⟨#[]⟩ : ByteArray)) := cT ab 1; have bx := blk_frozen ab.out 0; have bz := blk_frozen ab.out 1))
        have n0_ : Aside0 (((w25.setCell ⟨ac, 0, none⟩ (.string ((rd_T27 l0 aa).f0))).setCell ⟨ac, 1, none⟩ (.string ((rd_T27 l0 aa).f1))).heap[ac]? = some (.cells #[.string ((rd_T27 l0 aa).f0), .string ((rd_T27 l0 aa).f1)] 27 (0, 0))) := ⟨by (with_reducible repeat (first | apply bn | apply bd | apply ba)); refine blk_put (cs := #[.string ((rd_T27 l0 aa).f0), .string (⟨#[]⟩ : ByteArray)]) ?_ 1 _ rfl; (with_reducible repeat (first | apply bn | apply bd | apply ba)); refine blk_put (cs := #[.string (⟨#[]⟩ : ByteArray), .string (⟨#[]⟩ : ByteArray)]) ?_ 0 _ rfl; exact bT ab.out⟩
        have n1_ : Aside0 (Below w.heap.size w ((w25.setCell ⟨ac, 0, none⟩ (.string ((rd_T27 l0 aa).f0))).setCell ⟨ac, 1, none⟩ (.string ((rd_T27 l0 aa).f1)))) := ⟨by repeat (first | (with_reducible first | exact HB.out | apply pA | apply pN | apply pD | refine eU ?_ (by assumption)) | exact HB.out)⟩
        (try clear ab)
        (try clear HB)
        generalize ((w25.setCell ⟨ac, 0, none⟩ (.string ((rd_T27 l0 aa).f0))).setCell ⟨ac, 1, none⟩ (.string ((rd_T27 l0 aa).f1))) = w27 at n0_ n1_ ⊢
        have ab := n0_
        have HB := n1_
        clear n0_ n1_
        replace ab := am (blk_drew ab.out)
        replace HB := am (below_drew1 HB.out)
        refine start_ (n := 17) (S := fun w' => w'.cell? ⟨ac, 0, none⟩ = some (.string ((rd_T27 l0 aa).f0)) ∧ w'.cell? ⟨ac, 1, none⟩ = some (.string ((rd_T27 l0 aa).f1))) (ds := []) (bA 17 0) (by kernel_rfl) rfl (by kernel_rfl) ⟨cT ab 0, cT ab 1⟩ (fun hHeld => ?_); refine with_tabW node_Check.tab4 node_Check.bits4 (fun HT_ HW_ => ?_)
        generalize w27.drew = w28 at ab HB hHeld ⊢
        refine tT 0 12 (bA 17 1) HT_.out HW_.out hHeld ?_ (hy := by rintro w' ⟨s0, s1⟩; go_simp; with_reducible rfl)
        refine oT 1 (bA 17 3) HT_.out fun K hK => ?_
        refine gS Tryd.func27 #[.agg #[.string ((rd_T27 l0 aa).f0), .string ((rd_T27 l0 aa).f1)]] ?_
        with_reducible refine (node_May.calls k1 ((rd_T27 l0 aa).f0) ((rd_T27 l0 aa).f1) true _ A5.out).mono ?_
        rintro e w29 ⟨rfl, hb⟩
        refine ⟨_, rfl, ?_⟩
        replace ab := am (bB ab.out hb)
        replace HB := am (sT HB.out hb)
        (try clear hb)
        (try clear hb2)
        (try clear hk)
        (try clear hi)
        refine hK.out _ _ ⟨cT ab 0, cT ab 1⟩ (fun hHeld => ?_)
        clear hK K
        refine mN 13 ?_
        refine pT 2 14 (bA 17 7) HT_.out ?_
        refine pT 3 15 (bA 17 15) HT_.out ?_
        refine pT 4 16 (bA 17 31) HT_.out ?_
        refine pT 5 17 (bA 17 63) HT_.out ?_
        refine pT 6 18 (bA 17 127) HT_.out ?_
        refine pU 7 19 (bA 17 255) HT_.out ?_
        refine pU 8 20 (bA 17 511) HT_.out ?_
        refine pU 9 21 (bA 17 1023) HT_.out ?_
        refine pU 10 22 (bA 17 2047) HT_.out ?_
        refine pU 11 23 (bA 17 4095) HT_.out ?_
        refine pU 12 24 (bA 17 8191) HT_.out ?_
        refine pU 13 25 (bA 17 16383) HT_.out ?_
        refine pU 14 26 (bA 17 32767) HT_.out ?_
        refine pT 15 27 (bA 17 65535) HT_.out ?_
        refine pT 16 28 (bA 17 131071) HT_.out ?_
        refine done_ (done_of HT_.out (by kernel_rfl)) ?_
        try go_wp2
        go_roundg k1
        case measure => have := HK1.out; omega
        case rel => exact ⟨(wrap64 (aa + 1)), (by first | rfl | (simp; done) | (simp [*]; done)), H', ⟨by have := HK1.out; omega⟩, ⟨eT HB.out⟩⟩
      ·replace c6 := Bool.eq_false_iff.mpr c6
       subst c6
       have H1 : (some 1) = some r := by rw [if_neg (show ¬ (false = true) by decide)] at H; exact H
       clear H
       have H := H1
       clear H1
       obtain rfl := Option.some.inj H
       have p246 : 0 ≤ (aa : Int) := of_decide_eq_true (by first | (with_reducible assumption) | assumption)
       have q246 : aa < (l0.length : Int) := of_decide_eq_true (by first | (with_reducible assumption) | assumption)
       obtain ⟨ad246, e246, ad, ae⟩ := at_T27 HR0.out aa p246 q246
       cases e246
       replace ad := (HB.out.cell (World.block_lt_of_cell? w _ ad)).trans ad
       replace ae := (HB.out.cell (World.block_lt_of_cell? w _ ae)).trans ae
       replace p246 := eq_true p246
       replace q246 := eq_true q246
       try go_wp2_with (first | ((with_reducible refine gate_dst (N := 4) rfl ?_); refine box_event ?hg (N := 4) ?hd (cs := #[.string (⟨#[]⟩ : ByteArray), .string (⟨#[]⟩ : ByteArray)]) (t := 27) ?hr ?_; (case hd => rfl); (case hg => rfl); (case hr => first | (go_simp; done) | (go_simp; rfl)); intro ac hg w30 hbox hb; have ab := am (hbox); have aF := am ((gT hg HB.out)); have aG := am ((gT hg HB.out)); replace HB := am (sT HB.out hb); clear hb hbox hg; have bC : w30.cell? ⟨ac, 0, none⟩ = some (.string (⟨#[]⟩ : ByteArray)) := cT ab 0; have bD : w30.cell? ⟨ac, 1, none⟩ = some (.string (⟨#[]⟩ : ByteArray)) := cT ab 1; have bE := blk_frozen ab.out 0; have bF := blk_frozen ab.out 1))
       have n0_ : Aside0 (((w30.setCell ⟨ac, 0, none⟩ (.string ((rd_T27 l0 aa).f0))).setCell ⟨ac, 1, none⟩ (.string ((rd_T27 l0 aa).f1))).heap[ac]? = some (.cells #[.string ((rd_T27 l0 aa).f0), .string ((rd_T27 l0 aa).f1)] 27 (0, 0))) := ⟨by (with_reducible repeat (first | apply bn | apply bd | apply ba)); refine blk_put (cs := #[.string ((rd_T27 l0 aa).f0), .string (⟨#[]⟩ : ByteArray)]) ?_ 1 _ rfl; (with_reducible repeat (first | apply bn | apply bd | apply ba)); refine blk_put (cs := #[.string (⟨#[]⟩ : ByteArray), .string (⟨#[]⟩ : ByteArray)]) ?_ 0 _ rfl; exact bT ab.out⟩
       have n1_ : Aside0 (Below w.heap.size w ((w30.setCell ⟨ac, 0, none⟩ (.string ((rd_T27 l0 aa).f0))).setCell ⟨ac, 1, none⟩ (.string ((rd_T27 l0 aa).f1)))) := ⟨by repeat (first | (with_reducible first | exact HB.out | apply pA | apply pN | apply pD | refine eU ?_ (by assumption)) | exact HB.out)⟩
       (try clear ab)
       (try clear HB)
       generalize ((w30.setCell ⟨ac, 0, none⟩ (.string ((rd_T27 l0 aa).f0))).setCell ⟨ac, 1, none⟩ (.string ((rd_T27 l0 aa).f1))) = w32 at n0_ n1_ ⊢
       have ab := n0_
       have HB := n1_
       clear n0_ n1_
       replace ab := am (blk_drew ab.out)
       replace HB := am (below_drew1 HB.out)
       refine start_ (n := 17) (S := fun w' => w'.cell? ⟨ac, 0, none⟩ = some (.string ((rd_T27 l0 aa).f0)) ∧ w'.cell? ⟨ac, 1, none⟩ = some (.string ((rd_T27 l0 aa).f1))) (ds := []) (bA 17 0) (by kernel_rfl) rfl (by kernel_rfl) ⟨cT ab 0, cT ab 1⟩ (fun hHeld => ?_); refine with_tabW node_Check.tab4 node_Check.bits4 (fun HT_ HW_ => ?_)
       generalize w32.drew = w33 at ab HB hHeld ⊢
       refine tT 0 12 (bA 17 1) HT_.out HW_.out hHeld ?_ (hy := by rintro w' ⟨s0, s1⟩; go_simp; with_reducible rfl)
       refine oT 1 (bA 17 3) HT_.out fun K hK => ?_
       refine gS Tryd.func27 #[.agg #[.string ((rd_T27 l0 aa).f0), .string ((rd_T27 l0 aa).f1)]] ?_
       with_reducible refine (node_May.calls k1 ((rd_T27 l0 aa).f0) ((rd_T27 l0 aa).f1) false _ A5.out).mono ?_
       rintro e w34 ⟨rfl, hb⟩
       refine ⟨_, rfl, ?_⟩
       replace ab := am (bB ab.out hb)
       replace HB := am (sT HB.out hb)
       (try clear hb)
       (try clear hb2)
       (try clear hk)
       (try clear hi)
       refine hK.out _ _ ⟨cT ab 0, cT ab 1⟩ (fun hHeld => ?_)
       clear hK K
       refine mN 13 ?_
       refine pT 2 14 (bA 17 7) HT_.out ?_
       refine pT 3 15 (bA 17 15) HT_.out ?_
       refine pU 4 16 (bA 17 31) HT_.out ?_
       refine pU 5 17 (bA 17 63) HT_.out ?_
       refine pU 6 18 (bA 17 127) HT_.out ?_
       refine pU 7 19 (bA 17 255) HT_.out ?_
       refine pU 8 20 (bA 17 511) HT_.out ?_
       refine pU 9 21 (bA 17 1023) HT_.out ?_
       refine pU 10 22 (bA 17 2047) HT_.out ?_
       refine pU 11 23 (bA 17 4095) HT_.out ?_
       refine pU 12 24 (bA 17 8191) HT_.out ?_
       refine pU 13 25 (bA 17 16383) HT_.out ?_
       refine pU 14 26 (bA 17 32767) HT_.out ?_
       refine pU 15 27 (bA 17 65535) HT_.out ?_
       refine pT 16 28 (bA 17 131071) HT_.out ?_
       refine done_ (done_of HT_.out (by kernel_rfl)) ?_
       try go_wp2
       go_ret
       exact ⟨by first | rfl | (simp [errW_none, errW_some] <;> rfl) | (simp [*, errW_none, errW_some] <;> rfl), eT HB.out⟩
     ·rw [if_neg c4] at H
      exact absurd H (by simp)
    ·rw [if_neg c3] at H
     exact absurd H (by simp)
   ·rw [if_neg c2] at H
    have aN : decide (aa < (l0.length : Int)) = false := decide_eq_false c2
    clear c2
    obtain rfl := Option.some.inj H
    go_wp2
    go_ret
    exact ⟨by first | rfl | (simp [errW_none, errW_some] <;> rfl) | (simp [*, errW_none, errW_some] <;> rfl), eT HB.out⟩

/-! ### store_Check: function 13 -/
def store_Check.f (k : Nat) (l0_0 : List (S27)) (l0_1 : List ByteArray) : Option (Int) := if (l0_0.length : Int) = (l0_1.length : Int) then ((node_Check.f k l0_0).bind fun aA => (some aA)) else (some 1)
theorem store_Check.mono : ∀ a0 a1 k, LeO (store_Check.f k a0 a1) (store_Check.f (k + 1) a0 a1) := by
 intro a0 a1 k
 unfold store_Check.f
 repeat' first
   | (with_reducible exact node_Check.mono _ _)
   | (with_reducible exact LeO.refl _)
   | (with_reducible exact LeO.none _)
   | (with_reducible refine LeO.ite ?_ ?_)
   | (with_reducible refine LeO.bind ?_ (fun _ => ?_))
   | exact node_Check.mono _ _
   | exact LeO.none _
   | refine LeO.ite ?_ ?_
   | refine LeO.bind ?_ (fun _ => ?_)
set_option maxHeartbeats 8000000 in
set_option maxRecDepth 100000 in
theorem store_Check.calls (k : Nat) (ay : Option Addr) (az : Nat) (l0_0 : List (S27)) (aB : Option Addr) (aC : Nat) (l0_1 : List ByteArray) (r : Int) (w : World) (hr0_0 : Kd.C k27 w ay l0_0.length l0_0) (hc0_0 : l0_0.length ≤ az) (hr0_1 : Kd.C Kd.string w aB l0_1.length l0_1) (hc0_1 : l0_1.length ≤ aC) (h : store_Check.f k l0_0 l0_1 = some r) :
  Calls Tryd.prog 13 #[.agg #[.slice ay l0_0.length az, .slice aB l0_1.length aC]] w fun e w' => e = .returned (.int .i64 r) ∧ Below w.heap.size w w' := by
 have hu25 := Tryd.underlying25
 have aX := Aside0.mk hr0_0
 have aY := Aside0.mk hc0_0
 clear hr0_0 hc0_0
 have b3 := Aside0.mk hr0_1
 have b4 := Aside0.mk hc0_1
 clear hr0_1 hc0_1
 have HB := am (Below.refl w.heap.size w)
 have H : (if (l0_0.length : Int) = (l0_1.length : Int) then ((node_Check.f k l0_0).bind fun aA => (some aA)) else (some 1)) = some r := h
 clear h
 by_cases c2 : (l0_0.length : Int) = (l0_1.length : Int)
 ·rw [if_pos c2] at H
  have aN : ((l0_0.length : Int) == (l0_1.length : Int)) = true := beq_iff_eq.mpr c2
  have bR : ((l0_0.length : Int) != (l0_1.length : Int)) = false := bne_eq_false_iff_eq.mpr c2
  have bS : (l0_0.length == l0_1.length) = true := by first | simpa using c2 | (simp at c2 ⊢; omega)
  clear c2
  replace H := Option.bind_eq_some_iff.mp H
  obtain ⟨aA, A30, H⟩ := H
  replace H : (some aA) = some r := H
  have A3 := Aside0.mk A30
  clear A30
  obtain rfl := Option.some.inj H
  go_enter Tryd.func13, Tryd.ntmps13
  go_wp2_with (first | ((with_reducible refine gate_dst (N := 1) rfl ?_); refine box_event ?hg (N := 1) ?hd (cs := #[.slice ay l0_0.length az, .slice aB l0_1.length aC]) (t := 25) ?hr ?_; (case hd => rfl); (case hg => rfl); (case hr => first | (go_simp; done) | (go_simp; rfl)); intro aw hg w4 hbox hb; have aj := am (hbox); have aZ := am ((gT hg HB.out)); have a4 := am ((gT hg HB.out)); replace HB := am (sT HB.out hb); clear hb hbox hg; have bU : w4.cell? ⟨aw, 0, none⟩ = some (.slice ay l0_0.length az) := cT aj 0; have bV : w4.cell? ⟨aw, 1, none⟩ = some (.slice aB l0_1.length aC) := cT aj 1; have bW := blk_frozen aj.out 0; have bX := blk_frozen aj.out 1) | ((with_reducible refine gate_callee (f := 24) rfl ?_); refine gL (some 12) Tryd.func24 #[.slice ay l0_0.length az] ?_; (with_reducible refine (node_Check.calls k _ _ l0_0 aA _ ?side1 ?side2 A3.out).mono ?_); (case side1 => repeat (first | exact (Kd.C_below aX.out HB.out) | (with_reducible refine Kd.C_alloc ?_ _) | (with_reducible refine Kd.C_drewN ?_ _) | (with_reducible refine Kd.C_drew ?_))); (case side2 => exact aY.out); rintro e w6 ⟨rfl, hb⟩; refine ⟨_, rfl, ?_⟩; replace aj := am (bB aj.out hb); replace HB := am (sT HB.out hb); (try clear hb); (try clear hb2); (try clear hk); (try clear hi)))
  go_ret
  exact ⟨by first | rfl | (simp [errW_none, errW_some] <;> rfl) | (simp [*, errW_none, errW_some] <;> rfl), eT HB.out⟩
 ·rw [if_neg c2] at H
  have aN : ((l0_0.length : Int) == (l0_1.length : Int)) = false := beq_eq_false_iff_ne.mpr c2
  have bR : ((l0_0.length : Int) != (l0_1.length : Int)) = true := bne_iff_ne.mpr c2
  have bS : (l0_0.length == l0_1.length) = false := by first | simpa using c2 | (simp at c2 ⊢; omega)
  obtain rfl := Option.some.inj H
  go_enter Tryd.func13, Tryd.ntmps13
  go_wp2_with (first | ((with_reducible refine gate_dst (N := 1) rfl ?_); refine box_event ?hg (N := 1) ?hd (cs := #[.slice ay l0_0.length az, .slice aB l0_1.length aC]) (t := 25) ?hr ?_; (case hd => rfl); (case hg => rfl); (case hr => first | (go_simp; done) | (go_simp; rfl)); intro aw hg w7 hbox hb; have aj := am (hbox); have aZ := am ((gT hg HB.out)); have a4 := am ((gT hg HB.out)); replace HB := am (sT HB.out hb); clear hb hbox hg; have aI : w7.cell? ⟨aw, 0, none⟩ = some (.slice ay l0_0.length az) := cT aj 0; have aJ : w7.cell? ⟨aw, 1, none⟩ = some (.slice aB l0_1.length aC) := cT aj 1; have aK := blk_frozen aj.out 0; have aL := blk_frozen aj.out 1))
  go_ret
  exact ⟨by first | rfl | (simp [errW_none, errW_some] <;> rfl) | (simp [*, errW_none, errW_some] <;> rfl), eT HB.out⟩

end Go.Proofs.YtomjppafgalaoaaDoor.P
