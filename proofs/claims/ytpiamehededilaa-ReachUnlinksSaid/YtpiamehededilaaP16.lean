-- Written by this project's own program (wip/tools/hp.py), driving the kit's print; hand texts among it. Not trusted: Lean checks it.
-- half the indentation
import Derived.Test.YtpiamehededilaaThen
import Derived.Test.YtpiamehededilaaP0
import Derived.Test.YtpiamehededilaaP2
import Derived.Test.YtpiamehededilaaP9
import Derived.Test.YtpiamehededilaaP10
import Derived.Test.YtpiamehededilaaP12
import Derived.Test.YtpiamehededilaaP13
import Derived.Test.YtpiamehededilaaP14
namespace Go.Proofs.Ytpiamehededilaa.P
open Go.RowKit Go.Proofs.YtpiamehededilaaW.PrintWords Go.Proofs.YtpiamehededilaaW.PrintLast Go.Proofs.YtpiamehededilaaW.PrintMore
attribute [local go_sem] max2_int min2_int max_two min_two max_three min_three max_four min_four   -- for this text's walks alone
set_option linter.unusedVariables false
set_option linter.unusedSimpArgs false

/-! ### graftwoodlaw15_ReachUnlinks: function 4 -/
def graftwoodlaw15_ReachUnlinks.j0 : Nat → Int → Int → List Int → Int → Bool → List (S36) → List Int → List (S36) → List Int → Option (Bool)
 | 0, _, _, _, _, _, _, _, _, _ => none
 | k + 1, x1, x2, x8, x9, x33, aU, a4, a5, a6 => if x33 = true then ((graftwoodref15_Same.f k a5 a6 aU a4).bind fun be => (if be = true then (if (x8.length : Int) = 0 then (if x9 = 1 then ((graftwoodlaw15_awake.f k).bind fun aV => (some aV)) else (some false)) else (some false)) else (some false))) else ((graftwoodref11_Many.f k aU x1 x2).bind fun aL => (if aL = 0 then ((graftwoodref15_Same.f k a5 a6 aU a4).bind fun a9 => (if a9 = true then (if (x8.length : Int) = 0 then (if x9 = 2 then ((graftwoodlaw15_awake.f k).bind fun aQ => (some aQ)) else (some false)) else (some false)) else (some false))) else ((graftwoodref11_With.f k aU x1 x2 (wrap64 (aL - 1))).bind fun aM => ((graftwoodref15_Live.f k aM).bind fun aF => ((graftwoodref15_Same.f k a5 a6 aM aF).bind fun aR => (if aR = true then ((graftwoodref15_Minus.f k a4 aF).bind fun aN => ((graftwoodref11_Ints.f k x8 aN).bind fun aK => (if aK = true then (if x9 = 0 then ((graftwoodlaw15_awake.f k).bind fun aE => (some aE)) else (some false)) else (some false)))) else (some false)))))))
def graftwoodlaw15_ReachUnlinks.f (k : Nat) (l0_0 : List (S36)) (l0_1 : List Int) (a1 : Int) (a2 : Int) : Option (Bool) := (graftwoodlaw15_Few.f l0_0 l0_1).bind fun bt313 => ((reach_Unlink.f k bt313.1 bt313.2 a1 a2).bind fun bt319 => ((graftwoodref15_May.f k bt313.1 bt313.2).bind fun aW => (if aW = true then (if a1 < (-1) then (graftwoodlaw15_ReachUnlinks.j0 k a1 a2 bt319.2.2.1 bt319.2.2.2 true bt313.1 bt313.2 bt319.1 bt319.2.1) else (graftwoodlaw15_ReachUnlinks.j0 k a1 a2 bt319.2.2.1 bt319.2.2.2 (decide (a2 < 0)) bt313.1 bt313.2 bt319.1 bt319.2.1)) else (graftwoodlaw15_ReachUnlinks.j0 k a1 a2 bt319.2.2.1 bt319.2.2.2 true bt313.1 bt313.2 bt319.1 bt319.2.1))))
theorem graftwoodlaw15_ReachUnlinks.mono_l : ∀ k, (∀ y0 y1 y2 y3 y4 y5 y6 y7 y8, LeO (graftwoodlaw15_ReachUnlinks.j0 k y0 y1 y2 y3 y4 y5 y6 y7 y8) (graftwoodlaw15_ReachUnlinks.j0 (k + 1) y0 y1 y2 y3 y4 y5 y6 y7 y8))
 | 0 => fun _ _ _ _ _ _ _ _ _ r h => by simp [graftwoodlaw15_ReachUnlinks.j0] at h
 | k + 1 => by
  have ih0 := graftwoodlaw15_ReachUnlinks.mono_l k
  ·intro y0 y1 y2 y3 y4 y5 y6 y7 y8
   unfold graftwoodlaw15_ReachUnlinks.j0
   repeat' first
   | (with_reducible exact ih0 _ _ _ _ _ _ _ _ _)
   | (with_reducible exact graftwoodlaw15_awake.mono _)
   | (with_reducible exact graftwoodref11_Ints.mono _ _ _)
   | (with_reducible exact graftwoodref11_Many.mono _ _ _ _)
   | (with_reducible exact graftwoodref11_With.mono _ _ _ _ _)
   | (with_reducible exact graftwoodref15_Live.mono _ _)
   | (with_reducible exact graftwoodref15_May.mono _ _ _)
   | (with_reducible exact graftwoodref15_Minus.mono _ _ _)
   | (with_reducible exact graftwoodref15_Same.mono _ _ _ _ _)
   | (with_reducible exact reach_Unlink.mono _ _ _ _ _)
   | (with_reducible exact LeO.refl _)
   | (with_reducible exact LeO.none _)
   | (with_reducible refine LeO.ite ?_ ?_)
   | (with_reducible refine LeO.bind ?_ (fun _ => ?_))
   | exact ih0 _ _ _ _ _ _ _ _ _
   | exact graftwoodlaw15_awake.mono _
   | exact graftwoodref11_Ints.mono _ _ _
   | exact graftwoodref11_Many.mono _ _ _ _
   | exact graftwoodref11_With.mono _ _ _ _ _
   | exact graftwoodref15_Live.mono _ _
   | exact graftwoodref15_May.mono _ _ _
   | exact graftwoodref15_Minus.mono _ _ _
   | exact graftwoodref15_Same.mono _ _ _ _ _
   | exact reach_Unlink.mono _ _ _ _ _
   | exact LeO.none _
   | refine LeO.ite ?_ ?_
   | refine LeO.bind ?_ (fun _ => ?_)
theorem graftwoodlaw15_ReachUnlinks.mono : ∀ a0 a1 a2 a3 k, LeO (graftwoodlaw15_ReachUnlinks.f k a0 a1 a2 a3) (graftwoodlaw15_ReachUnlinks.f (k + 1) a0 a1 a2 a3) := by
 intro a0 a1 a2 a3 k
 have ih0 := graftwoodlaw15_ReachUnlinks.mono_l k
 unfold graftwoodlaw15_ReachUnlinks.f
 repeat' first
   | (with_reducible exact ih0 _ _ _ _ _ _ _ _ _)
   | (with_reducible exact graftwoodlaw15_awake.mono _)
   | (with_reducible exact graftwoodref11_Ints.mono _ _ _)
   | (with_reducible exact graftwoodref11_Many.mono _ _ _ _)
   | (with_reducible exact graftwoodref11_With.mono _ _ _ _ _)
   | (with_reducible exact graftwoodref15_Live.mono _ _)
   | (with_reducible exact graftwoodref15_May.mono _ _ _)
   | (with_reducible exact graftwoodref15_Minus.mono _ _ _)
   | (with_reducible exact graftwoodref15_Same.mono _ _ _ _ _)
   | (with_reducible exact reach_Unlink.mono _ _ _ _ _)
   | (with_reducible exact LeO.refl _)
   | (with_reducible exact LeO.none _)
   | (with_reducible refine LeO.ite ?_ ?_)
   | (with_reducible refine LeO.bind ?_ (fun _ => ?_))
   | exact ih0 _ _ _ _ _ _ _ _ _
   | exact graftwoodlaw15_awake.mono _
   | exact graftwoodref11_Ints.mono _ _ _
   | exact graftwoodref11_Many.mono _ _ _ _
   | exact graftwoodref11_With.mono _ _ _ _ _
   | exact graftwoodref15_Live.mono _ _
   | exact graftwoodref15_May.mono _ _ _
   | exact graftwoodref15_Minus.mono _ _ _
   | exact graftwoodref15_Same.mono _ _ _ _ _
   | exact reach_Unlink.mono _ _ _ _ _
   | exact LeO.none _
   | refine LeO.ite ?_ ?_
   | refine LeO.bind ?_ (fun _ => ?_)
set_option maxHeartbeats 8000000 in
set_option maxRecDepth 100000 in
theorem graftwoodlaw15_ReachUnlinks.calls (k : Nat) (a7 : Option Addr) (a8 : Nat) (l0_0 : List (S36)) (aX : Option Addr) (aY : Nat) (l0_1 : List Int) (a1 : Int) (a2 : Int) (r : Bool) (w : World) (hr0_0 : Kd.C k36 w a7 l0_0.length l0_0) (hc0_0 : l0_0.length ≤ a8) (hr0_1 : Kd.C (Kd.int .i64) w aX l0_1.length l0_1) (hc0_1 : l0_1.length ≤ aY) (h : graftwoodlaw15_ReachUnlinks.f k l0_0 l0_1 a1 a2 = some r) (hR_ : r = true) :
  Calls Try.prog 4 #[.agg #[.slice a7 l0_0.length a8, .slice aX l0_1.length aY], .int .i64 a1, .int .i64 a2] w fun e w' => e = .returned (.bool r) ∧ Below w.heap.size w w' := by
 have hu25 := Try.underlying25
 have hu36 := Try.underlying36
 have bK := Aside0.mk hr0_0
 have bL := Aside0.mk hc0_0
 clear hr0_0 hc0_0
 have bM := Aside0.mk hr0_1
 have bN := Aside0.mk hc0_1
 clear hr0_1 hc0_1
 have HB := am (Below.refl w.heap.size w)
 have H : ((graftwoodlaw15_Few.f l0_0 l0_1).bind fun bt313 => ((reach_Unlink.f k bt313.1 bt313.2 a1 a2).bind fun bt319 => ((graftwoodref15_May.f k bt313.1 bt313.2).bind fun aW => (if aW = true then (if a1 < (-1) then (graftwoodlaw15_ReachUnlinks.j0 k a1 a2 bt319.2.2.1 bt319.2.2.2 true bt313.1 bt313.2 bt319.1 bt319.2.1) else (graftwoodlaw15_ReachUnlinks.j0 k a1 a2 bt319.2.2.1 bt319.2.2.2 (decide (a2 < 0)) bt313.1 bt313.2 bt319.1 bt319.2.1)) else (graftwoodlaw15_ReachUnlinks.j0 k a1 a2 bt319.2.2.1 bt319.2.2.2 true bt313.1 bt313.2 bt319.1 bt319.2.1))))) = some r := h
 clear h
 replace H := Option.bind_eq_some_iff.mp H
 obtain ⟨⟨ai, aj⟩, A40, H⟩ := H
 replace H : ((reach_Unlink.f k ai aj a1 a2).bind fun bt319 => ((graftwoodref15_May.f k ai aj).bind fun aW => (if aW = true then (if a1 < (-1) then (graftwoodlaw15_ReachUnlinks.j0 k a1 a2 bt319.2.2.1 bt319.2.2.2 true ai aj bt319.1 bt319.2.1) else (graftwoodlaw15_ReachUnlinks.j0 k a1 a2 bt319.2.2.1 bt319.2.2.2 (decide (a2 < 0)) ai aj bt319.1 bt319.2.1)) else (graftwoodlaw15_ReachUnlinks.j0 k a1 a2 bt319.2.2.1 bt319.2.2.2 true ai aj bt319.1 bt319.2.1)))) = some r := H
 have A4 := Aside0.mk A40
 clear A40
 replace H := Option.bind_eq_some_iff.mp H
 obtain ⟨⟨ak, al, ap, ao⟩, A50, H⟩ := H
 replace H : ((graftwoodref15_May.f k ai aj).bind fun aW => (if aW = true then (if a1 < (-1) then (graftwoodlaw15_ReachUnlinks.j0 k a1 a2 ap ao true ai aj ak al) else (graftwoodlaw15_ReachUnlinks.j0 k a1 a2 ap ao (decide (a2 < 0)) ai aj ak al)) else (graftwoodlaw15_ReachUnlinks.j0 k a1 a2 ap ao true ai aj ak al))) = some r := H
 have A5 := Aside0.mk A50
 clear A50
 have HC6 := Aside0.mk H
 clear H
 go_enter Try.func4, Try.ntmps4
 go_upto_region 3 with (first | ((with_reducible refine gate_dst (N := 3) rfl ?_); (try (refine gate_guard (by rfl) ?_; dsimp only)); refine box_event ?hg (N := 3) ?hd (cs := #[.slice a7 l0_0.length a8, .slice aX l0_1.length aY]) (t := 25) ?hr ?_; (case hd => rfl); (case hg => rfl); (case hr => first | (go_simp; done) | (go_simp; rfl)); intro ag hg w7 hbox hb; have ab := am (hbox); have bb := am ((by rw [hg]; exact (below_size (by repeat (first | (with_reducible first | exact HB.out | apply pA | apply pN | apply pD) | exact HB.out))) : w.heap.size ≤ ag)); have cX := am ((by rw [hg]; exact (below_size (by repeat (first | (with_reducible first | exact HB.out | apply pA | apply pN | apply pD) | exact HB.out))) : w.heap.size ≤ ag)); replace HB := am (below_step (by repeat (first | (with_reducible first | exact HB.out | apply pA | apply pN | apply pD) | exact HB.out)) hb); clear hb hbox hg; have bG : w7.cell? ⟨ag, 0, none⟩ = some (.slice a7 l0_0.length a8) := cT ab 0; have bH : w7.cell? ⟨ag, 1, none⟩ = some (.slice aX l0_1.length aY) := cT ab 1; have bI := blk_frozen ab.out 0; have bJ := blk_frozen ab.out 1) | ((with_reducible refine gate_callee (f := 10) rfl ?_); refine gL (some 14) Try.func10 #[.agg #[.slice a7 l0_0.length a8, .slice aX l0_1.length aY]] ?_; (with_reducible refine (graftwoodlaw15_Few.calls (fun k_ => k_ < w.heap.size) _ _ l0_0 (fun k_ => k_ < w.heap.size) _ _ l0_1 ai aj _ ?side1 ?side2 A4.out).mono ?_); (case side1 => exact Kd.V_mk bL.out (Kd.F_below (Kd.C_F k36_heap bK.out) (by repeat (first | (with_reducible first | exact HB.out | apply pA | apply pN | apply pD | refine eU ?_ (by assumption)) | exact HB.out)))); (case side2 => exact Kd.V_mk bN.out (Kd.F_below (Kd.C_F (Kd.heap_int .i64) bM.out) (by repeat (first | (with_reducible first | exact HB.out | apply pA | apply pN | apply pD | refine eU ?_ (by assumption)) | exact HB.out)))); rintro e w9 ⟨dn, dp, rfl, ho0, ho1, hb⟩; refine ⟨_, rfl, ?_⟩; have aq := am (Kd.V_lower (Kd.V_mono (ok' := fun k_ => k_ ≠ ag) ho0 (fun k_ hk_ => Or.elim hk_ (fun hs_ => Or.elim hs_ (fun hs_ => fun e_ => Nat.not_le.2 hs_ (by rw [e_]; exact bb.out)) (fun hs_ => fun e_ => Nat.not_le.2 hs_ (by rw [e_]; exact bb.out))) (fun hn_ => (Kd.freshB (g := ag) (o := .cells #[.slice a7 l0_0.length a8, .slice aX l0_1.length aY] 25 (0, 0)) (bT ab.out) k_ hn_)))) (below_size (by repeat (first | (with_reducible first | exact HB.out | apply pA | apply pN | apply pD | refine eU ?_ (by assumption)) | exact HB.out)))); have ar := am (Kd.V_lower (Kd.V_mono (ok' := fun k_ => k_ ≠ ag) ho1 (fun k_ hk_ => Or.elim hk_ (fun hs_ => Or.elim hs_ (fun hs_ => fun e_ => Nat.not_le.2 hs_ (by rw [e_]; exact bb.out)) (fun hs_ => fun e_ => Nat.not_le.2 hs_ (by rw [e_]; exact bb.out))) (fun hn_ => (Kd.freshB (g := ag) (o := .cells #[.slice a7 l0_0.length a8, .slice aX l0_1.length aY] 25 (0, 0)) (bT ab.out) k_ hn_)))) (below_size (by repeat (first | (with_reducible first | exact HB.out | apply pA | apply pN | apply pD | refine eU ?_ (by assumption)) | exact HB.out)))); replace ab := am (bB ab.out hb); replace HB := am (below_step (by repeat (first | (with_reducible first | exact HB.out | apply pA | apply pN | apply pD | refine eU ?_ (by assumption)) | exact HB.out)) hb); (try clear hb); (try clear hb2); (try clear hk); (try clear hi); (try clear ho0); (try clear ho1); obtain ⟨az, aw, cO⟩ := Kd.V_slice aq.out; subst cO; have bf : w9.cell? ⟨ag, 0, none⟩ = some (.slice a7 l0_0.length a8) := cT ab 0; have bg : w9.cell? ⟨ag, 1, none⟩ = some (.slice aX l0_1.length aY) := cT ab 1; have bh := blk_frozen ab.out 0; have bi := blk_frozen ab.out 1; obtain ⟨aC, aA, cP⟩ := Kd.V_slice ar.out; subst cP) | ((with_reducible refine gate_store (t := 25) (p := 3) rfl ?_); refine store_event (t := 25) (p := 3) (v := ?vo_w13) (w1 := ((w9.setCell ⟨ag, 0, none⟩ (.slice az ai.length aw)).setCell ⟨ag, 1, none⟩ (.slice aC aj.length aA))) ?hg ?ho ?hn ?hr ?_; (case ho => rfl); (case hg => rfl); (case hn => rfl); (case hr => first | (go_simp; done) | (go_simp; rfl)); intro w13 hw; have n0_ : Aside0 (Kd.V k36 36 w13 w.heap.size (fun k_ => k_ ≠ ag) (.slice az ai.length aw) ai) := ⟨(by rw [hw]; exact (by (with_reducible repeat (first | apply Kd.V_alloc | apply Kd.V_drewN | apply Kd.V_drew)); exact Kd.V_mono (Kd.V_far (p := ⟨ag, 1, none⟩) (Kd.V_far (p := ⟨ag, 0, none⟩) (Kd.V_mono aq.out (fun k_ hk => (⟨hk, hk⟩ : _ ∧ k_ ≠ ag))) (fun _ hk => hk.2) (.slice az ai.length aw)) (fun _ hk => hk.2) (.slice aC aj.length aA)) (fun _ hk => hk.1)))⟩; have n1_ : Aside0 (Kd.V (Kd.int .i64) 3 w13 w.heap.size (fun k_ => k_ ≠ ag) (.slice aC aj.length aA) aj) := ⟨(by rw [hw]; exact (by (with_reducible repeat (first | apply Kd.V_alloc | apply Kd.V_drewN | apply Kd.V_drew)); exact Kd.V_mono (Kd.V_far (p := ⟨ag, 1, none⟩) (Kd.V_far (p := ⟨ag, 0, none⟩) (Kd.V_mono ar.out (fun k_ hk => (⟨hk, hk⟩ : _ ∧ k_ ≠ ag))) (fun _ hk => hk.2) (.slice az ai.length aw)) (fun _ hk => hk.2) (.slice aC aj.length aA)) (fun _ hk => hk.1)))⟩; have n2_ : Aside0 (w13.heap[ag]? = some (.cells #[.slice az ai.length aw, .slice aC aj.length aA] 25 (0, 0))) := ⟨(by rw [hw]; exact (by (with_reducible repeat (first | apply bn | apply bd | apply ba)); refine blk_put (cs := #[.slice az ai.length aw, .slice aX l0_1.length aY]) ?_ 1 _ rfl; (with_reducible repeat (first | apply bn | apply bd | apply ba)); refine blk_put (cs := #[.slice a7 l0_0.length a8, .slice aX l0_1.length aY]) ?_ 0 _ rfl; exact bT ab.out))⟩; have n3_ : Aside0 (Below w.heap.size w w13) := ⟨(by rw [hw]; exact (by repeat (first | (with_reducible first | exact HB.out | apply pA | apply pN | apply pD | refine eU ?_ (by assumption)) | exact HB.out)))⟩; clear hw aq ar ab HB; have aq := n0_; have ar := n1_; have ab := n2_; have HB := n3_; clear n0_ n1_ n2_ n3_; have bj : w13.cell? ⟨ag, 0, none⟩ = some (.slice az ai.length aw) := cT ab 0; have bk : w13.cell? ⟨ag, 1, none⟩ = some (.slice aC aj.length aA) := cT ab 1; have bl := blk_frozen ab.out 0; have bm := blk_frozen ab.out 1) | ((with_reducible refine gate_callee (f := 20) rfl ?_); refine gL (some 19) Try.func20 #[.agg #[.slice az ai.length aw, .slice aC aj.length aA], .int .i64 a1, .int .i64 a2] ?_; (with_reducible refine (reach_Unlink.calls k (fun k_ => k_ ≠ ag) _ _ ai (fun k_ => k_ ≠ ag) _ _ aj a1 a2 ak al ap ao _ ?side1 ?side2 A5.out).mono ?_); (case side1 => exact aq.out); (case side2 => exact ar.out); rintro e w15 ⟨dq, dr, aP, rfl, ho0, ho1, ho2, hb⟩; refine ⟨_, rfl, ?_⟩; replace aq := am (Kd.V_elder' (vT aq.out) (Kd.R_base ho2) hb); replace ar := am (Kd.V_elder' (vT ar.out) (Kd.R_base ho2) hb); have aH := am (Kd.V_lower (Kd.V_mono (ok' := fun k_ => some k_ ≠ (aP : Value).ownBlock ∧ k_ ≠ ag) ho0 (fun k_ hk_ => ⟨hk_.2, Or.elim hk_.1 (fun hs_ => Or.elim hs_ (fun hs_ => hs_) (fun hs_ => hs_)) (fun hn_ => (Kd.freshB (g := ag) (o := .cells #[.slice az ai.length aw, .slice aC aj.length aA] 25 (0, 0)) (bT ab.out) k_ hn_))⟩)) (below_size (by repeat (first | (with_reducible first | exact HB.out | apply pA | apply pN | apply pD | refine eU ?_ (by assumption)) | exact HB.out)))); have aI := am (Kd.V_lower (Kd.V_mono (ok' := fun k_ => some k_ ≠ (aP : Value).ownBlock ∧ k_ ≠ ag) ho1 (fun k_ hk_ => ⟨hk_.2, Or.elim hk_.1 (fun hs_ => Or.elim hs_ (fun hs_ => hs_) (fun hs_ => hs_)) (fun hn_ => (Kd.freshB (g := ag) (o := .cells #[.slice az ai.length aw, .slice aC aj.length aA] 25 (0, 0)) (bT ab.out) k_ hn_))⟩)) (below_size (by repeat (first | (with_reducible first | exact HB.out | apply pA | apply pN | apply pD | refine eU ?_ (by assumption)) | exact HB.out)))); have aO := am (Kd.R_lower (Kd.R_mono (ok' := fun k_ => True) ho2 (fun _ hk_ => trivial)) (below_size (by repeat (first | (with_reducible first | exact HB.out | apply pA | apply pN | apply pD | refine eU ?_ (by assumption)) | exact HB.out)))); replace ab := am (bB ab.out hb); replace HB := am (below_step (by repeat (first | (with_reducible first | exact HB.out | apply pA | apply pN | apply pD | refine eU ?_ (by assumption)) | exact HB.out)) hb); (try clear hb); (try clear hb2); (try clear hk); (try clear hi); (try clear ho0); (try clear ho1); (try clear ho2)) | ((with_reducible refine gate_dst (N := 7) rfl ?_); (try (refine gate_guard (by rfl) ?_; dsimp only)); refine box_event ?hg (N := 7) ?hd (cs := #[.slice none 0 0, .slice none 0 0]) (t := 25) ?hr ?_; (case hd => rfl); (case hg => rfl); (case hr => first | (go_simp; done) | (go_simp; rfl)); intro aa hg w16 hbox hb; replace aq := am (Kd.V_below (Kd.V_elderB (vT aq.out) aa (Nat.le_of_eq hg.symm)) hb); replace ar := am (Kd.V_below (Kd.V_elderB (vT ar.out) aa (Nat.le_of_eq hg.symm)) hb); replace aH := am (Kd.V_below (Kd.V_elderB (vT aH.out) aa (Nat.le_of_eq hg.symm)) hb); replace aI := am (Kd.V_below (Kd.V_elderB (vT aI.out) aa (Nat.le_of_eq hg.symm)) hb); replace aO := am (rB aO.out hb); have ah := am (hbox); have cY := am ((by rw [hg]; exact (below_size (by repeat (first | (with_reducible first | exact HB.out | apply pA | apply pN | apply pD | refine eU ?_ (by assumption)) | exact HB.out))) : w.heap.size ≤ aa)); have cZ := am ((by rw [hg]; exact (below_size (by repeat (first | (with_reducible first | exact HB.out | apply pA | apply pN | apply pD | refine eU ?_ (by assumption)) | exact HB.out))) : w.heap.size ≤ aa)); have an := am ((nT ab.out hg)); have aB := am ((mT ab.out hg)); replace ab := am (bB ab.out hb); replace HB := am (below_step (by repeat (first | (with_reducible first | exact HB.out | apply pA | apply pN | apply pD | refine eU ?_ (by assumption)) | exact HB.out)) hb); clear hb hbox hg; obtain ⟨au, av, cQ⟩ := Kd.V_slice aH.out; subst cQ; have c0 := aB.out; have c5 := an.out; have bo : w16.cell? ⟨aa, 0, none⟩ = some (.slice none 0 0) := cT ah 0; have bp : w16.cell? ⟨aa, 1, none⟩ = some (.slice none 0 0) := cT ah 1; have bq := blk_frozen ah.out 0; have br := blk_frozen ah.out 1; obtain ⟨ax, ay, cR⟩ := Kd.V_slice aI.out; subst cR))
 (try simp only [Act.put, List.setIfInBounds_toArray, List.set_cons_zero, List.set_cons_succ])
 go_cut [33] (fun v33 wc => ∃ (kq : Nat) (bc : Bool), v33 = .bool bc ∧ Aside0 (graftwoodlaw15_ReachUnlinks.j0 kq a1 a2 ap ao bc ai aj ak al = some r) ∧ Aside0 (kq ≤ k) ∧ Aside0 (Kd.R (Kd.int .i64) 3 wc w.heap.size (fun _ => True) aP ap) ∧ Aside0 (Kd.V k36 36 wc w.heap.size (fun k_ => some k_ ≠ (aP : Value).ownBlock ∧ k_ ≠ ag ∧ k_ ≠ aa) (.slice az ai.length aw) ai) ∧ Aside0 (Kd.V (Kd.int .i64) 3 wc w.heap.size (fun k_ => some k_ ≠ (aP : Value).ownBlock ∧ k_ ≠ ag ∧ k_ ≠ aa) (.slice aC aj.length aA) aj) ∧ Aside0 (Kd.V k36 36 wc w.heap.size (fun k_ => some k_ ≠ (aP : Value).ownBlock ∧ k_ ≠ ag ∧ k_ ≠ aa) (.slice au ak.length av) ak) ∧ Aside0 (Kd.V (Kd.int .i64) 3 wc w.heap.size (fun k_ => some k_ ≠ (aP : Value).ownBlock ∧ k_ ≠ ag ∧ k_ ≠ aa) (.slice ax al.length ay) al) ∧ Aside0 (wc.heap[ag]? = some (.cells #[(.slice az ai.length aw), (.slice aC aj.length aA)] 25 (0, 0))) ∧ Aside0 (wc.heap[aa]? = some (.cells #[(.slice au ak.length av), (.slice ax al.length ay)] 25 (0, 0))) ∧ Aside0 (Below w.heap.size w wc))
 case first =>
  have H := HC6.out
  clear HC6
  replace H := Option.bind_eq_some_iff.mp H
  obtain ⟨aW, bO, H⟩ := H
  replace H : (if aW = true then (if a1 < (-1) then (graftwoodlaw15_ReachUnlinks.j0 k a1 a2 ap ao true ai aj ak al) else (graftwoodlaw15_ReachUnlinks.j0 k a1 a2 ap ao (decide (a2 < 0)) ai aj ak al)) else (graftwoodlaw15_ReachUnlinks.j0 k a1 a2 ap ao true ai aj ak al)) = some r := H
  have A21 := Aside0.mk bO
  clear bO
  by_cases c22 : aW = true
  ·subst c22
   have H1 : (if a1 < (-1) then (graftwoodlaw15_ReachUnlinks.j0 k a1 a2 ap ao true ai aj ak al) else (graftwoodlaw15_ReachUnlinks.j0 k a1 a2 ap ao (decide (a2 < 0)) ai aj ak al)) = some r := by rw [if_pos rfl] at H; exact H
   clear H
   have H := H1
   clear H1
   by_cases c23 : a1 < (-1)
   ·rw [if_pos c23] at H
    have aZ : decide (a1 < (-1)) = true := decide_eq_true c23
    clear c23
    (first | rw [aZ] | (simp only [i64_w, i32_w]; rw [aZ]) | skip)
    have H' := Aside0.mk H
    clear H
    have c6 := an.out
    have c7 := aB.out
    have bs : w16.cell? ⟨ag, 0, none⟩ = some (.slice az ai.length aw) := cT ab 0
    have bt : w16.cell? ⟨ag, 1, none⟩ = some (.slice aC aj.length aA) := cT ab 1
    have bu := blk_frozen ab.out 0
    have bv := blk_frozen ab.out 1
    go_wp2_with (first | ((with_reducible refine gate_callee (f := 12) rfl ?_); refine gL (some 24) Try.func12 #[.agg #[.slice az ai.length aw, .slice aC aj.length aA]] ?_; (with_reducible refine (graftwoodref15_May.calls k _ _ ai _ _ aj true _ ?side1 ?side2 ?side3 ?side4 A21.out).mono ?_); (case side1 => refine (Kd.V_reads' (e := 36) (base := w.heap.size) (ok := fun k_ => ((k_ ≠ ag ∧ some k_ ≠ (aP : Value).ownBlock) ∧ k_ ≠ aa)) (n := ai.length) (c := aw) ?_).2.2; exact (by (with_reducible repeat (first | apply Kd.V_alloc | apply Kd.V_drewN | apply Kd.V_drew)); exact (Kd.V_mono (Kd.V_far (p := ⟨aa, 1, none⟩) (Kd.V_far (p := ⟨aa, 0, none⟩) (Kd.V_mono aq.out (fun k_ hk => (⟨hk, hk.2⟩ : _ ∧ k_ ≠ aa))) (fun _ hk => hk.2) (.slice au ak.length av)) (fun _ hk => hk.2) (.slice ax al.length ay)) (fun _ h_ => h_.1)))); (case side2 => exact (Kd.V_reads' aq.out).2.1); (case side3 => refine (Kd.V_reads' (e := 3) (base := w.heap.size) (ok := fun k_ => ((k_ ≠ ag ∧ some k_ ≠ (aP : Value).ownBlock) ∧ k_ ≠ aa)) (n := aj.length) (c := aA) ?_).2.2; exact (by (with_reducible repeat (first | apply Kd.V_alloc | apply Kd.V_drewN | apply Kd.V_drew)); exact (Kd.V_mono (Kd.V_far (p := ⟨aa, 1, none⟩) (Kd.V_far (p := ⟨aa, 0, none⟩) (Kd.V_mono ar.out (fun k_ hk => (⟨hk, hk.2⟩ : _ ∧ k_ ≠ aa))) (fun _ hk => hk.2) (.slice au ak.length av)) (fun _ hk => hk.2) (.slice ax al.length ay)) (fun _ h_ => h_.1)))); (case side4 => exact (Kd.V_reads' ar.out).2.1); rintro e w26 ⟨rfl, hb⟩; refine ⟨_, rfl, ?_⟩; replace aq := am (Kd.V_below (by (with_reducible repeat (first | apply Kd.V_alloc | apply Kd.V_drewN | apply Kd.V_drew)); exact (Kd.V_mono (Kd.V_far (p := ⟨aa, 1, none⟩) (Kd.V_far (p := ⟨aa, 0, none⟩) (Kd.V_mono aq.out (fun k_ hk => (⟨hk, hk.2⟩ : _ ∧ k_ ≠ aa))) (fun _ hk => hk.2) (.slice au ak.length av)) (fun _ hk => hk.2) (.slice ax al.length ay)) (fun _ h_ => h_.1))) hb); replace ar := am (Kd.V_below (by (with_reducible repeat (first | apply Kd.V_alloc | apply Kd.V_drewN | apply Kd.V_drew)); exact (Kd.V_mono (Kd.V_far (p := ⟨aa, 1, none⟩) (Kd.V_far (p := ⟨aa, 0, none⟩) (Kd.V_mono ar.out (fun k_ hk => (⟨hk, hk.2⟩ : _ ∧ k_ ≠ aa))) (fun _ hk => hk.2) (.slice au ak.length av)) (fun _ hk => hk.2) (.slice ax al.length ay)) (fun _ h_ => h_.1))) hb); replace aH := am (Kd.V_below (by (with_reducible repeat (first | apply Kd.V_alloc | apply Kd.V_drewN | apply Kd.V_drew)); exact (Kd.V_mono (Kd.V_far (p := ⟨aa, 1, none⟩) (Kd.V_far (p := ⟨aa, 0, none⟩) (Kd.V_mono aH.out (fun k_ hk => (⟨hk, hk.2⟩ : _ ∧ k_ ≠ aa))) (fun _ hk => hk.2) (.slice au ak.length av)) (fun _ hk => hk.2) (.slice ax al.length ay)) (fun _ h_ => h_.1))) hb); replace aI := am (Kd.V_below (by (with_reducible repeat (first | apply Kd.V_alloc | apply Kd.V_drewN | apply Kd.V_drew)); exact (Kd.V_mono (Kd.V_far (p := ⟨aa, 1, none⟩) (Kd.V_far (p := ⟨aa, 0, none⟩) (Kd.V_mono aI.out (fun k_ hk => (⟨hk, hk.2⟩ : _ ∧ k_ ≠ aa))) (fun _ hk => hk.2) (.slice au ak.length av)) (fun _ hk => hk.2) (.slice ax al.length ay)) (fun _ h_ => h_.1))) hb); replace aO := am (Kd.R_below (by (with_reducible repeat (first | apply Kd.R_alloc | apply Kd.R_drewN | apply Kd.R_drew)); exact (Kd.R_mono (Kd.R_far (p := ⟨aa, 1, none⟩) (Kd.R_far (p := ⟨aa, 0, none⟩) (Kd.R_types aO.out ah.out (by decide)) (fun _ hk => hk.2) (.slice au ak.length av)) (fun _ hk => hk.2) (.slice ax al.length ay)) (fun _ h_ => h_.1))) hb); replace ab := am (blk_below (g := ag) (o := .cells #[.slice az ai.length aw, .slice aC aj.length aA] 25 (0, 0)) (by (with_reducible repeat (first | apply bn | apply bd | apply ba)); refine blk_far ?_ an.out _; (with_reducible repeat (first | apply bn | apply bd | apply ba)); refine blk_far ?_ an.out _; exact bT ab.out) hb); replace HB := am (below_step (by repeat (first | (with_reducible first | exact HB.out | apply pA | apply pN | apply pD | refine eU ?_ (by assumption)) | exact HB.out)) hb); replace ah := am (blk_below (g := aa) (o := .cells #[.slice au ak.length av, .slice ax al.length ay] 25 (0, 0)) (by (with_reducible repeat (first | apply bn | apply bd | apply ba)); refine blk_put (cs := #[.slice au ak.length av, .slice none 0 0]) ?_ 1 _ rfl; (with_reducible repeat (first | apply bn | apply bd | apply ba)); refine blk_put (cs := #[.slice none 0 0, .slice none 0 0]) ?_ 0 _ rfl; exact bT ah.out) hb); (try clear hb); (try clear hb2); (try clear hk); (try clear hi)))
    go_meet
    case rel => exact ⟨_, (true), (by first | rfl | (simp; done) | (simp [*]; done)), H', ⟨by first | omega | exact Nat.le_refl _⟩, ⟨rT aO.out⟩, ⟨by (with_reducible repeat (first | apply Kd.V_alloc | apply Kd.V_drewN | apply Kd.V_drew)); exact Kd.V_mono aq.out (fun _ hk => ⟨hk.1.2, ⟨hk.1.1, hk.2⟩⟩)⟩, ⟨by (with_reducible repeat (first | apply Kd.V_alloc | apply Kd.V_drewN | apply Kd.V_drew)); exact Kd.V_mono ar.out (fun _ hk => ⟨hk.1.2, ⟨hk.1.1, hk.2⟩⟩)⟩, ⟨by (with_reducible repeat (first | apply Kd.V_alloc | apply Kd.V_drewN | apply Kd.V_drew)); exact Kd.V_mono aH.out (fun _ hk => ⟨hk.1.1, ⟨hk.1.2, hk.2⟩⟩)⟩, ⟨by (with_reducible repeat (first | apply Kd.V_alloc | apply Kd.V_drewN | apply Kd.V_drew)); exact Kd.V_mono aI.out (fun _ hk => ⟨hk.1.1, ⟨hk.1.2, hk.2⟩⟩)⟩, ⟨bT ab.out⟩, ⟨bT ah.out⟩, ⟨eT HB.out⟩⟩
   ·rw [if_neg c23] at H
    have aZ : decide (a1 < (-1)) = false := decide_eq_false c23
    clear c23
    (first | rw [aZ] | (simp only [i64_w, i32_w]; rw [aZ]) | skip)
    have H' := Aside0.mk H
    clear H
    have c8 := an.out
    have c9 := aB.out
    have bw : w16.cell? ⟨ag, 0, none⟩ = some (.slice az ai.length aw) := cT ab 0
    have bx : w16.cell? ⟨ag, 1, none⟩ = some (.slice aC aj.length aA) := cT ab 1
    have bz := blk_frozen ab.out 0
    have bA := blk_frozen ab.out 1
    go_wp2_with (first | ((with_reducible refine gate_callee (f := 12) rfl ?_); refine gL (some 24) Try.func12 #[.agg #[.slice az ai.length aw, .slice aC aj.length aA]] ?_; (with_reducible refine (graftwoodref15_May.calls k _ _ ai _ _ aj true _ ?side1 ?side2 ?side3 ?side4 A21.out).mono ?_); (case side1 => refine (Kd.V_reads' (e := 36) (base := w.heap.size) (ok := fun k_ => ((k_ ≠ ag ∧ some k_ ≠ (aP : Value).ownBlock) ∧ k_ ≠ aa)) (n := ai.length) (c := aw) ?_).2.2; exact (by (with_reducible repeat (first | apply Kd.V_alloc | apply Kd.V_drewN | apply Kd.V_drew)); exact (Kd.V_mono (Kd.V_far (p := ⟨aa, 1, none⟩) (Kd.V_far (p := ⟨aa, 0, none⟩) (Kd.V_mono aq.out (fun k_ hk => (⟨hk, hk.2⟩ : _ ∧ k_ ≠ aa))) (fun _ hk => hk.2) (.slice au ak.length av)) (fun _ hk => hk.2) (.slice ax al.length ay)) (fun _ h_ => h_.1)))); (case side2 => exact (Kd.V_reads' aq.out).2.1); (case side3 => refine (Kd.V_reads' (e := 3) (base := w.heap.size) (ok := fun k_ => ((k_ ≠ ag ∧ some k_ ≠ (aP : Value).ownBlock) ∧ k_ ≠ aa)) (n := aj.length) (c := aA) ?_).2.2; exact (by (with_reducible repeat (first | apply Kd.V_alloc | apply Kd.V_drewN | apply Kd.V_drew)); exact (Kd.V_mono (Kd.V_far (p := ⟨aa, 1, none⟩) (Kd.V_far (p := ⟨aa, 0, none⟩) (Kd.V_mono ar.out (fun k_ hk => (⟨hk, hk.2⟩ : _ ∧ k_ ≠ aa))) (fun _ hk => hk.2) (.slice au ak.length av)) (fun _ hk => hk.2) (.slice ax al.length ay)) (fun _ h_ => h_.1)))); (case side4 => exact (Kd.V_reads' ar.out).2.1); rintro e w29 ⟨rfl, hb⟩; refine ⟨_, rfl, ?_⟩; replace aq := am (Kd.V_below (by (with_reducible repeat (first | apply Kd.V_alloc | apply Kd.V_drewN | apply Kd.V_drew)); exact (Kd.V_mono (Kd.V_far (p := ⟨aa, 1, none⟩) (Kd.V_far (p := ⟨aa, 0, none⟩) (Kd.V_mono aq.out (fun k_ hk => (⟨hk, hk.2⟩ : _ ∧ k_ ≠ aa))) (fun _ hk => hk.2) (.slice au ak.length av)) (fun _ hk => hk.2) (.slice ax al.length ay)) (fun _ h_ => h_.1))) hb); replace ar := am (Kd.V_below (by (with_reducible repeat (first | apply Kd.V_alloc | apply Kd.V_drewN | apply Kd.V_drew)); exact (Kd.V_mono (Kd.V_far (p := ⟨aa, 1, none⟩) (Kd.V_far (p := ⟨aa, 0, none⟩) (Kd.V_mono ar.out (fun k_ hk => (⟨hk, hk.2⟩ : _ ∧ k_ ≠ aa))) (fun _ hk => hk.2) (.slice au ak.length av)) (fun _ hk => hk.2) (.slice ax al.length ay)) (fun _ h_ => h_.1))) hb); replace aH := am (Kd.V_below (by (with_reducible repeat (first | apply Kd.V_alloc | apply Kd.V_drewN | apply Kd.V_drew)); exact (Kd.V_mono (Kd.V_far (p := ⟨aa, 1, none⟩) (Kd.V_far (p := ⟨aa, 0, none⟩) (Kd.V_mono aH.out (fun k_ hk => (⟨hk, hk.2⟩ : _ ∧ k_ ≠ aa))) (fun _ hk => hk.2) (.slice au ak.length av)) (fun _ hk => hk.2) (.slice ax al.length ay)) (fun _ h_ => h_.1))) hb); replace aI := am (Kd.V_below (by (with_reducible repeat (first | apply Kd.V_alloc | apply Kd.V_drewN | apply Kd.V_drew)); exact (Kd.V_mono (Kd.V_far (p := ⟨aa, 1, none⟩) (Kd.V_far (p := ⟨aa, 0, none⟩) (Kd.V_mono aI.out (fun k_ hk => (⟨hk, hk.2⟩ : _ ∧ k_ ≠ aa))) (fun _ hk => hk.2) (.slice au ak.length av)) (fun _ hk => hk.2) (.slice ax al.length ay)) (fun _ h_ => h_.1))) hb); replace aO := am (Kd.R_below (by (with_reducible repeat (first | apply Kd.R_alloc | apply Kd.R_drewN | apply Kd.R_drew)); exact (Kd.R_mono (Kd.R_far (p := ⟨aa, 1, none⟩) (Kd.R_far (p := ⟨aa, 0, none⟩) (Kd.R_types aO.out ah.out (by decide)) (fun _ hk => hk.2) (.slice au ak.length av)) (fun _ hk => hk.2) (.slice ax al.length ay)) (fun _ h_ => h_.1))) hb); replace ab := am (blk_below (g := ag) (o := .cells #[.slice az ai.length aw, .slice aC aj.length aA] 25 (0, 0)) (by (with_reducible repeat (first | apply bn | apply bd | apply ba)); refine blk_far ?_ an.out _; (with_reducible repeat (first | apply bn | apply bd | apply ba)); refine blk_far ?_ an.out _; exact bT ab.out) hb); replace HB := am (below_step (by repeat (first | (with_reducible first | exact HB.out | apply pA | apply pN | apply pD | refine eU ?_ (by assumption)) | exact HB.out)) hb); replace ah := am (blk_below (g := aa) (o := .cells #[.slice au ak.length av, .slice ax al.length ay] 25 (0, 0)) (by (with_reducible repeat (first | apply bn | apply bd | apply ba)); refine blk_put (cs := #[.slice au ak.length av, .slice none 0 0]) ?_ 1 _ rfl; (with_reducible repeat (first | apply bn | apply bd | apply ba)); refine blk_put (cs := #[.slice none 0 0, .slice none 0 0]) ?_ 0 _ rfl; exact bT ah.out) hb); (try clear hb); (try clear hb2); (try clear hk); (try clear hi)))
    go_meet
    case rel => exact ⟨_, (decide (a2 < 0)), (by first | rfl | (simp; done) | (simp [*]; done)), H', ⟨by first | omega | exact Nat.le_refl _⟩, ⟨rT aO.out⟩, ⟨by (with_reducible repeat (first | apply Kd.V_alloc | apply Kd.V_drewN | apply Kd.V_drew)); exact Kd.V_mono aq.out (fun _ hk => ⟨hk.1.2, ⟨hk.1.1, hk.2⟩⟩)⟩, ⟨by (with_reducible repeat (first | apply Kd.V_alloc | apply Kd.V_drewN | apply Kd.V_drew)); exact Kd.V_mono ar.out (fun _ hk => ⟨hk.1.2, ⟨hk.1.1, hk.2⟩⟩)⟩, ⟨by (with_reducible repeat (first | apply Kd.V_alloc | apply Kd.V_drewN | apply Kd.V_drew)); exact Kd.V_mono aH.out (fun _ hk => ⟨hk.1.1, ⟨hk.1.2, hk.2⟩⟩)⟩, ⟨by (with_reducible repeat (first | apply Kd.V_alloc | apply Kd.V_drewN | apply Kd.V_drew)); exact Kd.V_mono aI.out (fun _ hk => ⟨hk.1.1, ⟨hk.1.2, hk.2⟩⟩)⟩, ⟨bT ab.out⟩, ⟨bT ah.out⟩, ⟨eT HB.out⟩⟩
  ·replace c22 := Bool.eq_false_iff.mpr c22
   subst c22
   have H1 : (graftwoodlaw15_ReachUnlinks.j0 k a1 a2 ap ao true ai aj ak al) = some r := by rw [if_neg (show ¬ (false = true) by decide)] at H; exact H
   clear H
   have H := H1
   clear H1
   have H' := Aside0.mk H
   clear H
   have c_ := an.out
   have da := aB.out
   have bC : w16.cell? ⟨ag, 0, none⟩ = some (.slice az ai.length aw) := cT ab 0
   have bD : w16.cell? ⟨ag, 1, none⟩ = some (.slice aC aj.length aA) := cT ab 1
   have bE := blk_frozen ab.out 0
   have bF := blk_frozen ab.out 1
   go_wp2_with (first | ((with_reducible refine gate_callee (f := 12) rfl ?_); refine gL (some 24) Try.func12 #[.agg #[.slice az ai.length aw, .slice aC aj.length aA]] ?_; (with_reducible refine (graftwoodref15_May.calls k _ _ ai _ _ aj false _ ?side1 ?side2 ?side3 ?side4 A21.out).mono ?_); (case side1 => refine (Kd.V_reads' (e := 36) (base := w.heap.size) (ok := fun k_ => ((k_ ≠ ag ∧ some k_ ≠ (aP : Value).ownBlock) ∧ k_ ≠ aa)) (n := ai.length) (c := aw) ?_).2.2; exact (by (with_reducible repeat (first | apply Kd.V_alloc | apply Kd.V_drewN | apply Kd.V_drew)); exact (Kd.V_mono (Kd.V_far (p := ⟨aa, 1, none⟩) (Kd.V_far (p := ⟨aa, 0, none⟩) (Kd.V_mono aq.out (fun k_ hk => (⟨hk, hk.2⟩ : _ ∧ k_ ≠ aa))) (fun _ hk => hk.2) (.slice au ak.length av)) (fun _ hk => hk.2) (.slice ax al.length ay)) (fun _ h_ => h_.1)))); (case side2 => exact (Kd.V_reads' aq.out).2.1); (case side3 => refine (Kd.V_reads' (e := 3) (base := w.heap.size) (ok := fun k_ => ((k_ ≠ ag ∧ some k_ ≠ (aP : Value).ownBlock) ∧ k_ ≠ aa)) (n := aj.length) (c := aA) ?_).2.2; exact (by (with_reducible repeat (first | apply Kd.V_alloc | apply Kd.V_drewN | apply Kd.V_drew)); exact (Kd.V_mono (Kd.V_far (p := ⟨aa, 1, none⟩) (Kd.V_far (p := ⟨aa, 0, none⟩) (Kd.V_mono ar.out (fun k_ hk => (⟨hk, hk.2⟩ : _ ∧ k_ ≠ aa))) (fun _ hk => hk.2) (.slice au ak.length av)) (fun _ hk => hk.2) (.slice ax al.length ay)) (fun _ h_ => h_.1)))); (case side4 => exact (Kd.V_reads' ar.out).2.1); rintro e w32 ⟨rfl, hb⟩; refine ⟨_, rfl, ?_⟩; replace aq := am (Kd.V_below (by (with_reducible repeat (first | apply Kd.V_alloc | apply Kd.V_drewN | apply Kd.V_drew)); exact (Kd.V_mono (Kd.V_far (p := ⟨aa, 1, none⟩) (Kd.V_far (p := ⟨aa, 0, none⟩) (Kd.V_mono aq.out (fun k_ hk => (⟨hk, hk.2⟩ : _ ∧ k_ ≠ aa))) (fun _ hk => hk.2) (.slice au ak.length av)) (fun _ hk => hk.2) (.slice ax al.length ay)) (fun _ h_ => h_.1))) hb); replace ar := am (Kd.V_below (by (with_reducible repeat (first | apply Kd.V_alloc | apply Kd.V_drewN | apply Kd.V_drew)); exact (Kd.V_mono (Kd.V_far (p := ⟨aa, 1, none⟩) (Kd.V_far (p := ⟨aa, 0, none⟩) (Kd.V_mono ar.out (fun k_ hk => (⟨hk, hk.2⟩ : _ ∧ k_ ≠ aa))) (fun _ hk => hk.2) (.slice au ak.length av)) (fun _ hk => hk.2) (.slice ax al.length ay)) (fun _ h_ => h_.1))) hb); replace aH := am (Kd.V_below (by (with_reducible repeat (first | apply Kd.V_alloc | apply Kd.V_drewN | apply Kd.V_drew)); exact (Kd.V_mono (Kd.V_far (p := ⟨aa, 1, none⟩) (Kd.V_far (p := ⟨aa, 0, none⟩) (Kd.V_mono aH.out (fun k_ hk => (⟨hk, hk.2⟩ : _ ∧ k_ ≠ aa))) (fun _ hk => hk.2) (.slice au ak.length av)) (fun _ hk => hk.2) (.slice ax al.length ay)) (fun _ h_ => h_.1))) hb); replace aI := am (Kd.V_below (by (with_reducible repeat (first | apply Kd.V_alloc | apply Kd.V_drewN | apply Kd.V_drew)); exact (Kd.V_mono (Kd.V_far (p := ⟨aa, 1, none⟩) (Kd.V_far (p := ⟨aa, 0, none⟩) (Kd.V_mono aI.out (fun k_ hk => (⟨hk, hk.2⟩ : _ ∧ k_ ≠ aa))) (fun _ hk => hk.2) (.slice au ak.length av)) (fun _ hk => hk.2) (.slice ax al.length ay)) (fun _ h_ => h_.1))) hb); replace aO := am (Kd.R_below (by (with_reducible repeat (first | apply Kd.R_alloc | apply Kd.R_drewN | apply Kd.R_drew)); exact (Kd.R_mono (Kd.R_far (p := ⟨aa, 1, none⟩) (Kd.R_far (p := ⟨aa, 0, none⟩) (Kd.R_types aO.out ah.out (by decide)) (fun _ hk => hk.2) (.slice au ak.length av)) (fun _ hk => hk.2) (.slice ax al.length ay)) (fun _ h_ => h_.1))) hb); replace ab := am (blk_below (g := ag) (o := .cells #[.slice az ai.length aw, .slice aC aj.length aA] 25 (0, 0)) (by (with_reducible repeat (first | apply bn | apply bd | apply ba)); refine blk_far ?_ an.out _; (with_reducible repeat (first | apply bn | apply bd | apply ba)); refine blk_far ?_ an.out _; exact bT ab.out) hb); replace HB := am (below_step (by repeat (first | (with_reducible first | exact HB.out | apply pA | apply pN | apply pD | refine eU ?_ (by assumption)) | exact HB.out)) hb); replace ah := am (blk_below (g := aa) (o := .cells #[.slice au ak.length av, .slice ax al.length ay] 25 (0, 0)) (by (with_reducible repeat (first | apply bn | apply bd | apply ba)); refine blk_put (cs := #[.slice au ak.length av, .slice none 0 0]) ?_ 1 _ rfl; (with_reducible repeat (first | apply bn | apply bd | apply ba)); refine blk_put (cs := #[.slice none 0 0, .slice none 0 0]) ?_ 0 _ rfl; exact bT ah.out) hb); (try clear hb); (try clear hb2); (try clear hk); (try clear hi)))
   go_meet
   case rel => exact ⟨_, (true), (by first | rfl | (simp; done) | (simp [*]; done)), H', ⟨by first | omega | exact Nat.le_refl _⟩, ⟨rT aO.out⟩, ⟨by (with_reducible repeat (first | apply Kd.V_alloc | apply Kd.V_drewN | apply Kd.V_drew)); exact Kd.V_mono aq.out (fun _ hk => ⟨hk.1.2, ⟨hk.1.1, hk.2⟩⟩)⟩, ⟨by (with_reducible repeat (first | apply Kd.V_alloc | apply Kd.V_drewN | apply Kd.V_drew)); exact Kd.V_mono ar.out (fun _ hk => ⟨hk.1.2, ⟨hk.1.1, hk.2⟩⟩)⟩, ⟨by (with_reducible repeat (first | apply Kd.V_alloc | apply Kd.V_drewN | apply Kd.V_drew)); exact Kd.V_mono aH.out (fun _ hk => ⟨hk.1.1, ⟨hk.1.2, hk.2⟩⟩)⟩, ⟨by (with_reducible repeat (first | apply Kd.V_alloc | apply Kd.V_drewN | apply Kd.V_drew)); exact Kd.V_mono aI.out (fun _ hk => ⟨hk.1.1, ⟨hk.1.2, hk.2⟩⟩)⟩, ⟨bT ab.out⟩, ⟨bT ah.out⟩, ⟨eT HB.out⟩⟩
 case rest =>
  clear HC6
  try clear c1
  try clear c2
  try clear p2
  try clear c3
  try clear c4
  try clear c10
  try clear c12
  try clear c18
  try clear c20
  try clear c22
  try clear c23
  try clear aZ
  try clear c24
  try clear c27
  try clear c30
  try clear bf
  try clear bg
  try clear bj
  try clear bk
  try clear bo
  try clear bp
  try clear bs
  try clear bt
  try clear bw
  try clear bx
  try clear bC
  try clear bD
  try clear bG
  try clear bH
  try clear bh
  try clear bi
  try clear bl
  try clear bm
  try clear bq
  try clear br
  try clear bu
  try clear bv
  try clear bz
  try clear bA
  try clear bE
  try clear bF
  try clear bI
  try clear bJ
  obtain ⟨kq, bc, rfl, HA, HJ5, aD, ac, ad, ae, af, ab, ah, HB⟩ := hcut
  cases kq with
  | zero => exact absurd HA.out (by simp [graftwoodlaw15_ReachUnlinks.j0])
  | succ kj5 =>
   have H := HA.out
   clear HA
   simp only [graftwoodlaw15_ReachUnlinks.j0] at H
   by_cases c33 : bc = true
   ·subst c33
    have H1 : ((graftwoodref15_Same.f kj5 ak al ai aj).bind fun be => (if be = true then (if (ap.length : Int) = 0 then (if ao = 1 then ((graftwoodlaw15_awake.f kj5).bind fun aV => (some aV)) else (some false)) else (some false)) else (some false))) = some r := by rw [if_pos rfl] at H; exact H
    clear H
    have H := H1
    clear H1
    replace H := Option.bind_eq_some_iff.mp H
    obtain ⟨be, bP, H⟩ := H
    replace H : (if be = true then (if (ap.length : Int) = 0 then (if ao = 1 then ((graftwoodlaw15_awake.f kj5).bind fun aV => (some aV)) else (some false)) else (some false)) else (some false)) = some r := H
    have A34 := Aside0.mk bP
    clear bP
    by_cases c35 : be = true
    ·subst c35
     have H1 : (if (ap.length : Int) = 0 then (if ao = 1 then ((graftwoodlaw15_awake.f kj5).bind fun aV => (some aV)) else (some false)) else (some false)) = some r := by rw [if_pos rfl] at H; exact H
     clear H
     have H := H1
     clear H1
     by_cases c36 : (ap.length : Int) = 0
     ·rw [if_pos c36] at H
      have bQ : ((ap.length : Int) == 0) = true := beq_iff_eq.mpr c36
      have bR : ((ap.length : Int) != 0) = false := bne_eq_false_iff_eq.mpr c36
      clear c36
      by_cases c37 : ao = 1
      ·rw [if_pos c37] at H
       have bS : (ao == 1) = true := beq_iff_eq.mpr c37
       have bU : (ao != 1) = false := bne_eq_false_iff_eq.mpr c37
       clear c37
       replace H := Option.bind_eq_some_iff.mp H
       obtain ⟨aV, bV, H⟩ := H
       replace H : (some aV) = some r := H
       have A38 := Aside0.mk bV
       clear bV
       obtain rfl := Option.some.inj H
       have db := aB.out
       have dc := an.out
       have cu : wc.cell? ⟨aa, 0, none⟩ = some (.slice au ak.length av) := cT ah 0
       have cv : wc.cell? ⟨aa, 1, none⟩ = some (.slice ax al.length ay) := cT ah 1
       have cw := blk_frozen ah.out 0
       have cx := blk_frozen ah.out 1
       have cy : wc.cell? ⟨ag, 0, none⟩ = some (.slice az ai.length aw) := cT ab 0
       have cz : wc.cell? ⟨ag, 1, none⟩ = some (.slice aC aj.length aA) := cT ab 1
       have cA := blk_frozen ab.out 0
       have cB := blk_frozen ab.out 1
       go_wp2_with (first | ((with_reducible refine gate_callee (f := 13) rfl ?_); refine gL (some 36) Try.func13 #[.agg #[.slice au ak.length av, .slice ax al.length ay], .agg #[.slice az ai.length aw, .slice aC aj.length aA]] ?_; (with_reducible refine (graftwoodref15_Same.calls kj5 _ _ ak _ _ al _ _ ai _ _ aj true _ ?side1 ?side2 ?side3 ?side4 ?side5 ?side6 ?side7 ?side8 A34.out).mono ?_); (case side1 => exact cW (Kd.V_reads' ae.out).2.2); (case side2 => exact (Kd.V_reads' ae.out).2.1); (case side3 => exact cW (Kd.V_reads' af.out).2.2); (case side4 => exact (Kd.V_reads' af.out).2.1); (case side5 => exact cW (Kd.V_reads' ac.out).2.2); (case side6 => exact (Kd.V_reads' ac.out).2.1); (case side7 => exact cW (Kd.V_reads' ad.out).2.2); (case side8 => exact (Kd.V_reads' ad.out).2.1); rintro e w42 ⟨rfl, hb⟩; refine ⟨_, rfl, ?_⟩; replace aD := am (rB aD.out hb); replace ac := am (vB ac.out hb); replace ad := am (vB ad.out hb); replace ae := am (vB ae.out hb); replace af := am (vB af.out hb); replace ab := am (bB ab.out hb); replace ah := am (bB ah.out hb); replace HB := am (sT HB.out hb); (try clear hb); (try clear hb2); (try clear hk); (try clear hi); obtain ⟨ds, dt, cS⟩ := Kd.R_slice aD.out; subst cS) | (go_at_call 14; (with_reducible refine (graftwoodlaw15_awake.calls kj5  aV _ A38.out (by first | exact hR_ | assumption)).mono ?_); rintro e w44 ⟨rfl, hb⟩; replace aD := am (rB aD.out hb); replace ac := am (vB ac.out hb); replace ad := am (vB ad.out hb); replace ae := am (vB ae.out hb); replace af := am (vB af.out hb); replace ab := am (bB ab.out hb); replace ah := am (bB ah.out hb); replace HB := am (sT HB.out hb); (try clear hb); (try clear hb2); (try clear hk); (try clear hi)))
       go_ret
       exact ⟨by first | rfl | (simp [errW_none, errW_some] <;> rfl) | (simp [*, errW_none, errW_some] <;> rfl), eT HB.out⟩
      ·rw [if_neg c37] at H
       have bS : (ao == 1) = false := beq_eq_false_iff_ne.mpr c37
       have bU : (ao != 1) = true := bne_iff_ne.mpr c37
       exact absurd ((Option.some.inj H).trans hR_) (by decide)
     ·rw [if_neg c36] at H
      have bQ : ((ap.length : Int) == 0) = false := beq_eq_false_iff_ne.mpr c36
      have bR : ((ap.length : Int) != 0) = true := bne_iff_ne.mpr c36
      have dd : ¬ (ap = []) := fun h_ => c36 (by rw [h_]; rfl)
      exact absurd ((Option.some.inj H).trans hR_) (by decide)
    ·replace c35 := Bool.eq_false_iff.mpr c35
     subst c35
     have H1 : (some false) = some r := by rw [if_neg (show ¬ (false = true) by decide)] at H; exact H
     clear H
     have H := H1
     clear H1
     exact absurd ((Option.some.inj H).trans hR_) (by decide)
   ·replace c33 := Bool.eq_false_iff.mpr c33
    subst c33
    have H1 : ((graftwoodref11_Many.f kj5 ai a1 a2).bind fun aL => (if aL = 0 then ((graftwoodref15_Same.f kj5 ak al ai aj).bind fun a9 => (if a9 = true then (if (ap.length : Int) = 0 then (if ao = 2 then ((graftwoodlaw15_awake.f kj5).bind fun aQ => (some aQ)) else (some false)) else (some false)) else (some false))) else ((graftwoodref11_With.f kj5 ai a1 a2 (wrap64 (aL - 1))).bind fun aM => ((graftwoodref15_Live.f kj5 aM).bind fun aF => ((graftwoodref15_Same.f kj5 ak al aM aF).bind fun aR => (if aR = true then ((graftwoodref15_Minus.f kj5 aj aF).bind fun aN => ((graftwoodref11_Ints.f kj5 ap aN).bind fun aK => (if aK = true then (if ao = 0 then ((graftwoodlaw15_awake.f kj5).bind fun aE => (some aE)) else (some false)) else (some false)))) else (some false))))))) = some r := by rw [if_neg (show ¬ (false = true) by decide)] at H; exact H
    clear H
    have H := H1
    clear H1
    replace H := Option.bind_eq_some_iff.mp H
    obtain ⟨aL, bW, H⟩ := H
    replace H : (if aL = 0 then ((graftwoodref15_Same.f kj5 ak al ai aj).bind fun a9 => (if a9 = true then (if (ap.length : Int) = 0 then (if ao = 2 then ((graftwoodlaw15_awake.f kj5).bind fun aQ => (some aQ)) else (some false)) else (some false)) else (some false))) else ((graftwoodref11_With.f kj5 ai a1 a2 (wrap64 (aL - 1))).bind fun aM => ((graftwoodref15_Live.f kj5 aM).bind fun aF => ((graftwoodref15_Same.f kj5 ak al aM aF).bind fun aR => (if aR = true then ((graftwoodref15_Minus.f kj5 aj aF).bind fun aN => ((graftwoodref11_Ints.f kj5 ap aN).bind fun aK => (if aK = true then (if ao = 0 then ((graftwoodlaw15_awake.f kj5).bind fun aE => (some aE)) else (some false)) else (some false)))) else (some false)))))) = some r := H
    have A59 := Aside0.mk bW
    clear bW
    by_cases c60 : aL = 0
    ·rw [if_pos c60] at H
     have bX : (aL == 0) = true := beq_iff_eq.mpr c60
     have bZ : (aL != 0) = false := bne_eq_false_iff_eq.mpr c60
     clear c60
     replace H := Option.bind_eq_some_iff.mp H
     obtain ⟨a9, b0, H⟩ := H
     replace H : (if a9 = true then (if (ap.length : Int) = 0 then (if ao = 2 then ((graftwoodlaw15_awake.f kj5).bind fun aQ => (some aQ)) else (some false)) else (some false)) else (some false)) = some r := H
     have A61 := Aside0.mk b0
     clear b0
     by_cases c62 : a9 = true
     ·subst c62
      have H1 : (if (ap.length : Int) = 0 then (if ao = 2 then ((graftwoodlaw15_awake.f kj5).bind fun aQ => (some aQ)) else (some false)) else (some false)) = some r := by rw [if_pos rfl] at H; exact H
      clear H
      have H := H1
      clear H1
      by_cases c63 : (ap.length : Int) = 0
      ·rw [if_pos c63] at H
       have b1 : ((ap.length : Int) == 0) = true := beq_iff_eq.mpr c63
       have b2 : ((ap.length : Int) != 0) = false := bne_eq_false_iff_eq.mpr c63
       clear c63
       by_cases c64 : ao = 2
       ·rw [if_pos c64] at H
        have b3 : (ao == 2) = true := beq_iff_eq.mpr c64
        have b4 : (ao != 2) = false := bne_eq_false_iff_eq.mpr c64
        clear c64
        replace H := Option.bind_eq_some_iff.mp H
        obtain ⟨aQ, b5, H⟩ := H
        replace H : (some aQ) = some r := H
        have A65 := Aside0.mk b5
        clear b5
        obtain rfl := Option.some.inj H
        have de := an.out
        have df := aB.out
        have cC : wc.cell? ⟨ag, 0, none⟩ = some (.slice az ai.length aw) := cT ab 0
        have cD : wc.cell? ⟨ag, 1, none⟩ = some (.slice aC aj.length aA) := cT ab 1
        have cE := blk_frozen ab.out 0
        have cF := blk_frozen ab.out 1
        go_wp2_with (first | ((with_reducible refine gate_callee (f := 15) rfl ?_); refine gL (some 53) Try.func15 #[.slice az ai.length aw, .int .i64 a1, .int .i64 a2] ?_; (with_reducible refine (graftwoodref11_Many.calls kj5 _ _ ai a1 a2 aL _ ?side1 ?side2 A59.out).mono ?_); (case side1 => exact cW (Kd.V_reads' ac.out).2.2); (case side2 => exact (Kd.V_reads' ac.out).2.1); rintro e w' ⟨rfl, ⟨nd, rfl⟩⟩; refine ⟨_, rfl, ?_⟩; have cG : wc.cell? ⟨aa, 0, none⟩ = some (.slice au ak.length av) := cT ah 0; have cH : wc.cell? ⟨aa, 1, none⟩ = some (.slice ax al.length ay) := cT ah 1; have cI := blk_frozen ah.out 0; have cJ := blk_frozen ah.out 1) | ((with_reducible refine gate_callee (f := 13) rfl ?_); refine gL (some 58) Try.func13 #[.agg #[.slice au ak.length av, .slice ax al.length ay], .agg #[.slice az ai.length aw, .slice aC aj.length aA]] ?_; (with_reducible refine (graftwoodref15_Same.calls kj5 _ _ ak _ _ al _ _ ai _ _ aj true _ ?side1 ?side2 ?side3 ?side4 ?side5 ?side6 ?side7 ?side8 A61.out).mono ?_); (case side1 => exact cW (Kd.V_reads' ae.out).2.2); (case side2 => exact (Kd.V_reads' ae.out).2.1); (case side3 => exact cW (Kd.V_reads' af.out).2.2); (case side4 => exact (Kd.V_reads' af.out).2.1); (case side5 => exact cW (Kd.V_reads' ac.out).2.2); (case side6 => exact (Kd.V_reads' ac.out).2.1); (case side7 => exact cW (Kd.V_reads' ad.out).2.2); (case side8 => exact (Kd.V_reads' ad.out).2.1); rintro e w69 ⟨rfl, hb⟩; refine ⟨_, rfl, ?_⟩; replace aD := am (rB aD.out hb); replace ac := am (vB ac.out hb); replace ad := am (vB ad.out hb); replace ae := am (vB ae.out hb); replace af := am (vB af.out hb); replace ab := am (bB ab.out hb); replace ah := am (bB ah.out hb); replace HB := am (sT HB.out hb); (try clear hb); (try clear hb2); (try clear hk); (try clear hi); obtain ⟨du, dv, cU⟩ := Kd.R_slice aD.out; subst cU) | (go_at_call 14; (with_reducible refine (graftwoodlaw15_awake.calls kj5  aQ _ A65.out (by first | exact hR_ | assumption)).mono ?_); rintro e w71 ⟨rfl, hb⟩; replace aD := am (rB aD.out hb); replace ac := am (vB ac.out hb); replace ad := am (vB ad.out hb); replace ae := am (vB ae.out hb); replace af := am (vB af.out hb); replace ab := am (bB ab.out hb); replace ah := am (bB ah.out hb); replace HB := am (sT HB.out hb); (try clear hb); (try clear hb2); (try clear hk); (try clear hi)))
        go_ret
        exact ⟨by first | rfl | (simp [errW_none, errW_some] <;> rfl) | (simp [*, errW_none, errW_some] <;> rfl), eT HB.out⟩
       ·rw [if_neg c64] at H
        have b3 : (ao == 2) = false := beq_eq_false_iff_ne.mpr c64
        have b4 : (ao != 2) = true := bne_iff_ne.mpr c64
        exact absurd ((Option.some.inj H).trans hR_) (by decide)
      ·rw [if_neg c63] at H
       have b1 : ((ap.length : Int) == 0) = false := beq_eq_false_iff_ne.mpr c63
       have b2 : ((ap.length : Int) != 0) = true := bne_iff_ne.mpr c63
       have dg : ¬ (ap = []) := fun h_ => c63 (by rw [h_]; rfl)
       exact absurd ((Option.some.inj H).trans hR_) (by decide)
     ·replace c62 := Bool.eq_false_iff.mpr c62
      subst c62
      have H1 : (some false) = some r := by rw [if_neg (show ¬ (false = true) by decide)] at H; exact H
      clear H
      have H := H1
      clear H1
      exact absurd ((Option.some.inj H).trans hR_) (by decide)
    ·rw [if_neg c60] at H
     have bX : (aL == 0) = false := beq_eq_false_iff_ne.mpr c60
     have bZ : (aL != 0) = true := bne_iff_ne.mpr c60
     replace H := Option.bind_eq_some_iff.mp H
     obtain ⟨aM, b6, H⟩ := H
     replace H : ((graftwoodref15_Live.f kj5 aM).bind fun aF => ((graftwoodref15_Same.f kj5 ak al aM aF).bind fun aR => (if aR = true then ((graftwoodref15_Minus.f kj5 aj aF).bind fun aN => ((graftwoodref11_Ints.f kj5 ap aN).bind fun aK => (if aK = true then (if ao = 0 then ((graftwoodlaw15_awake.f kj5).bind fun aE => (some aE)) else (some false)) else (some false)))) else (some false)))) = some r := H
     have A86 := Aside0.mk b6
     clear b6
     replace H := Option.bind_eq_some_iff.mp H
     obtain ⟨aF, b7, H⟩ := H
     replace H : ((graftwoodref15_Same.f kj5 ak al aM aF).bind fun aR => (if aR = true then ((graftwoodref15_Minus.f kj5 aj aF).bind fun aN => ((graftwoodref11_Ints.f kj5 ap aN).bind fun aK => (if aK = true then (if ao = 0 then ((graftwoodlaw15_awake.f kj5).bind fun aE => (some aE)) else (some false)) else (some false)))) else (some false))) = some r := H
     have A87 := Aside0.mk b7
     clear b7
     replace H := Option.bind_eq_some_iff.mp H
     obtain ⟨aR, b8, H⟩ := H
     replace H : (if aR = true then ((graftwoodref15_Minus.f kj5 aj aF).bind fun aN => ((graftwoodref11_Ints.f kj5 ap aN).bind fun aK => (if aK = true then (if ao = 0 then ((graftwoodlaw15_awake.f kj5).bind fun aE => (some aE)) else (some false)) else (some false)))) else (some false)) = some r := H
     have A88 := Aside0.mk b8
     clear b8
     by_cases c89 : aR = true
     ·subst c89
      have H1 : ((graftwoodref15_Minus.f kj5 aj aF).bind fun aN => ((graftwoodref11_Ints.f kj5 ap aN).bind fun aK => (if aK = true then (if ao = 0 then ((graftwoodlaw15_awake.f kj5).bind fun aE => (some aE)) else (some false)) else (some false)))) = some r := by rw [if_pos rfl] at H; exact H
      clear H
      have H := H1
      clear H1
      replace H := Option.bind_eq_some_iff.mp H
      obtain ⟨aN, b9, H⟩ := H
      replace H : ((graftwoodref11_Ints.f kj5 ap aN).bind fun aK => (if aK = true then (if ao = 0 then ((graftwoodlaw15_awake.f kj5).bind fun aE => (some aE)) else (some false)) else (some false))) = some r := H
      have A90 := Aside0.mk b9
      clear b9
      replace H := Option.bind_eq_some_iff.mp H
      obtain ⟨aK, b_, H⟩ := H
      replace H : (if aK = true then (if ao = 0 then ((graftwoodlaw15_awake.f kj5).bind fun aE => (some aE)) else (some false)) else (some false)) = some r := H
      have A91 := Aside0.mk b_
      clear b_
      by_cases c92 : aK = true
      ·subst c92
       have H1 : (if ao = 0 then ((graftwoodlaw15_awake.f kj5).bind fun aE => (some aE)) else (some false)) = some r := by rw [if_pos rfl] at H; exact H
       clear H
       have H := H1
       clear H1
       by_cases c93 : ao = 0
       ·rw [if_pos c93] at H
        have ca : (ao == 0) = true := beq_iff_eq.mpr c93
        have cb : (ao != 0) = false := bne_eq_false_iff_eq.mpr c93
        clear c93
        replace H := Option.bind_eq_some_iff.mp H
        obtain ⟨aE, cc, H⟩ := H
        replace H : (some aE) = some r := H
        have A94 := Aside0.mk cc
        clear cc
        obtain rfl := Option.some.inj H
        have dh := an.out
        have di := aB.out
        have cK : wc.cell? ⟨ag, 0, none⟩ = some (.slice az ai.length aw) := cT ab 0
        have cL : wc.cell? ⟨ag, 1, none⟩ = some (.slice aC aj.length aA) := cT ab 1
        have cM := blk_frozen ab.out 0
        have cN := blk_frozen ab.out 1
        go_wp2_with (first | ((with_reducible refine gate_callee (f := 15) rfl ?_); refine gL (some 53) Try.func15 #[.slice az ai.length aw, .int .i64 a1, .int .i64 a2] ?_; (with_reducible refine (graftwoodref11_Many.calls kj5 _ _ ai a1 a2 aL _ ?side1 ?side2 A59.out).mono ?_); (case side1 => exact cW (Kd.V_reads' ac.out).2.2); (case side2 => exact (Kd.V_reads' ac.out).2.1); rintro e w' ⟨rfl, ⟨nd, rfl⟩⟩; refine ⟨_, rfl, ?_⟩) | ((with_reducible refine gate_callee (f := 16) rfl ?_); refine gL (some 78) Try.func16 #[.slice az ai.length aw, .agg #[.int .i64 a1, .int .i64 a2, .int .i64 (wrap64 (aL - 1))]] ?_; (with_reducible refine (graftwoodref11_With.calls kj5 _ _ ai a1 a2 (wrap64 (aL - 1)) aM _ ?side1 ?side2 A86.out).mono ?_); (case side1 => exact cW (Kd.V_reads' ac.out).2.2); (case side2 => exact (Kd.V_reads' ac.out).2.1); rintro e w97 ⟨dw, rfl, ho0, hb⟩; refine ⟨_, rfl, ?_⟩; replace aD := am (rB aD.out hb); replace ac := am (Kd.V_elder' (vT ac.out) (Kd.R_base ho0) hb); replace ad := am (Kd.V_elder' (vT ad.out) (Kd.R_base ho0) hb); replace ae := am (Kd.V_elder' (vT ae.out) (Kd.R_base ho0) hb); replace af := am (Kd.V_elder' (vT af.out) (Kd.R_base ho0) hb); have aG := am (Kd.R_lower ho0 (below_size (eT HB.out))); replace ab := am (bB ab.out hb); replace ah := am (bB ah.out hb); replace HB := am (sT HB.out hb); (try clear hb); (try clear hb2); (try clear hk); (try clear hi); (try clear ho0); obtain ⟨cd, ce, cV⟩ := Kd.R_slice aG.out; subst cV) | ((with_reducible refine gate_callee (f := 17) rfl ?_); refine gL (some 80) Try.func17 #[.slice cd aM.length ce] ?_; (with_reducible refine (graftwoodref15_Live.calls kj5 _ _ aM aF _ ?side1 ?side2 A87.out).mono ?_); (case side1 => exact cW (Kd.R_reads' aG.out).2.2); (case side2 => exact (Kd.R_reads' aG.out).2.1); rintro e w99 ⟨dx, rfl, ho0, hb⟩; refine ⟨_, rfl, ?_⟩; replace ac := am (Kd.V_elder' (vT ac.out) (Kd.R_base ho0) hb); replace ad := am (Kd.V_elder' (vT ad.out) (Kd.R_base ho0) hb); replace ae := am (Kd.V_elder' (vT ae.out) (Kd.R_base ho0) hb); replace af := am (Kd.V_elder' (vT af.out) (Kd.R_base ho0) hb); replace aG := am (rB aG.out hb); have aJ := am (Kd.R_lower (Kd.R_new' ho0 (Kd.R_lt (rT aD.out))) (below_size (eT HB.out))); replace ab := am (bB ab.out hb); replace ah := am (bB ah.out hb); replace aD := am (Kd.R_elder' (rT aD.out) (Kd.R_base ho0) hb); replace HB := am (sT HB.out hb); (try clear hb); (try clear hb2); (try clear hk); (try clear hi); (try clear ho0); have cf : w99.cell? ⟨aa, 0, none⟩ = some (.slice au ak.length av) := cT ah 0; have cg : w99.cell? ⟨aa, 1, none⟩ = some (.slice ax al.length ay) := cT ah 1; have ch := blk_frozen ah.out 0; have ci := blk_frozen ah.out 1; obtain ⟨cj, ck, cl⟩ := Kd.R_slice aJ.out; subst cl) | ((with_reducible refine gate_callee (f := 13) rfl ?_); refine gL (some 85) Try.func13 #[.agg #[.slice au ak.length av, .slice ax al.length ay], .agg #[.slice cd aM.length ce, .slice cj aF.length ck]] ?_; (with_reducible refine (graftwoodref15_Same.calls kj5 _ _ ak _ _ al _ _ aM _ _ aF true _ ?side1 ?side2 ?side3 ?side4 ?side5 ?side6 ?side7 ?side8 A88.out).mono ?_); (case side1 => exact cW (Kd.V_reads' ae.out).2.2); (case side2 => exact (Kd.V_reads' ae.out).2.1); (case side3 => exact cW (Kd.V_reads' af.out).2.2); (case side4 => exact (Kd.V_reads' af.out).2.1); (case side5 => exact cW (Kd.R_reads' aG.out).2.2); (case side6 => exact (Kd.R_reads' aG.out).2.1); (case side7 => exact cW (Kd.R_reads' aJ.out).2.2); (case side8 => exact (Kd.R_reads' aJ.out).2.1); rintro e cm ⟨rfl, hb⟩; refine ⟨_, rfl, ?_⟩; replace aD := am (rB aD.out hb); replace ac := am (vB ac.out hb); replace ad := am (vB ad.out hb); replace ae := am (vB ae.out hb); replace af := am (vB af.out hb); replace aG := am (rB aG.out hb); replace aJ := am (rB aJ.out hb); replace ab := am (bB ab.out hb); replace ah := am (bB ah.out hb); replace HB := am (sT HB.out hb); (try clear hb); (try clear hb2); (try clear hk); (try clear hi); have cn : cm.cell? ⟨ag, 0, none⟩ = some (.slice az ai.length aw) := cT ab 0; have co : cm.cell? ⟨ag, 1, none⟩ = some (.slice aC aj.length aA) := cT ab 1; have cp := blk_frozen ab.out 0; have cq := blk_frozen ab.out 1) | (go_at_call 19; (with_reducible refine (graftwoodref15_Minus.calls kj5 _ _ aj _ _ aF aN _ ?side1 ?side2 ?side3 ?side4 A90.out).mono ?_); (case side1 => exact cW (Kd.V_reads' ad.out).2.2); (case side2 => exact (Kd.V_reads' ad.out).2.1); (case side3 => exact cW (Kd.R_reads' aJ.out).2.2); (case side4 => exact (Kd.R_reads' aJ.out).2.1); rintro e dy ⟨dz, rfl, ho0, hb⟩; replace ac := am (Kd.V_elder' (vT ac.out) (Kd.R_base ho0) hb); replace ad := am (Kd.V_elder' (vT ad.out) (Kd.R_base ho0) hb); replace ae := am (Kd.V_elder' (vT ae.out) (Kd.R_base ho0) hb); replace af := am (Kd.V_elder' (vT af.out) (Kd.R_base ho0) hb); replace aG := am (rB aG.out hb); have a_ := am (Kd.R_lower (Kd.R_new' (Kd.R_new' ho0 (Kd.R_lt (rT aD.out))) (Kd.R_lt (rT aJ.out))) (below_size (eT HB.out))); replace ab := am (bB ab.out hb); replace ah := am (bB ah.out hb); replace aD := am (Kd.R_elder' (rT aD.out) (Kd.R_base ho0) hb); replace aJ := am (Kd.R_elder' (rT aJ.out) (Kd.R_base ho0) hb); replace HB := am (sT HB.out hb); (try clear hb); (try clear hb2); (try clear hk); (try clear hi); (try clear ho0); obtain ⟨dj, dk, cr⟩ := Kd.R_slice aD.out; subst cr; obtain ⟨dl, dm, ct⟩ := Kd.R_slice a_.out; subst ct) | (go_at_call 18; (with_reducible refine (graftwoodref11_Ints.calls kj5 _ _ ap _ _ aN true _ ?side1 ?side2 ?side3 ?side4 A91.out).mono ?_); (case side1 => exact cW (Kd.R_reads' aD.out).2.2); (case side2 => exact (Kd.R_reads' aD.out).2.1); (case side3 => exact cW (Kd.R_reads' a_.out).2.2); (case side4 => exact (Kd.R_reads' a_.out).2.1); rintro e w' ⟨rfl, ⟨nd, rfl⟩⟩) | (go_at_call 14; (with_reducible refine (graftwoodlaw15_awake.calls kj5  aE _ A94.out (by first | exact hR_ | assumption)).mono ?_); rintro e dA ⟨rfl, hb⟩; replace aD := am (rB aD.out hb); replace ac := am (vB ac.out hb); replace ad := am (vB ad.out hb); replace ae := am (vB ae.out hb); replace af := am (vB af.out hb); replace aG := am (rB aG.out hb); replace aJ := am (rB aJ.out hb); replace a_ := am (rB a_.out hb); replace ab := am (bB ab.out hb); replace ah := am (bB ah.out hb); replace HB := am (sT HB.out hb); (try clear hb); (try clear hb2); (try clear hk); (try clear hi)))
        go_ret
        exact ⟨by first | rfl | (simp [errW_none, errW_some] <;> rfl) | (simp [*, errW_none, errW_some] <;> rfl), eT HB.out⟩
       ·rw [if_neg c93] at H
        have ca : (ao == 0) = false := beq_eq_false_iff_ne.mpr c93
        have cb : (ao != 0) = true := bne_iff_ne.mpr c93
        exact absurd ((Option.some.inj H).trans hR_) (by decide)
      ·replace c92 := Bool.eq_false_iff.mpr c92
       subst c92
       have H1 : (some false) = some r := by rw [if_neg (show ¬ (false = true) by decide)] at H; exact H
       clear H
       have H := H1
       clear H1
       exact absurd ((Option.some.inj H).trans hR_) (by decide)
     ·replace c89 := Bool.eq_false_iff.mpr c89
      subst c89
      have H1 : (some false) = some r := by rw [if_neg (show ¬ (false = true) by decide)] at H; exact H
      clear H
      have H := H1
      clear H1
      exact absurd ((Option.some.inj H).trans hR_) (by decide)
end Go.Proofs.Ytpiamehededilaa.P
