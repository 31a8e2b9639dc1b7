-- Written by this project's own program (wip/tools/hp.py), driving the kit's print; hand texts among it. Not trusted: Lean checks it.
-- half the indentation
import Derived.Test.YtpiamehededilaaThen
import Derived.Test.YtpiamehededilaaP0
import Derived.Test.YtpiamehededilaaP2
import Derived.Test.YtpiamehededilaaP9
import Derived.Test.YtpiamehededilaaP10
import Derived.Test.YtpiamehededilaaP13
import Derived.Test.YtpiamehededilaaP18
namespace Go.Proofs.Ytpiamehededilaa.P
open Go.RowKit Go.Proofs.YtpiamehededilaaW.PrintWords Go.Proofs.YtpiamehededilaaW.PrintLast Go.Proofs.YtpiamehededilaaW.PrintMore
attribute [local go_sem] max2_int min2_int max_two min_two max_three min_three max_four min_four   -- for this text's walks alone
set_option linter.unusedVariables false
set_option linter.unusedSimpArgs false

/-! ### graftwoodlaw15_ReachEnds: function 5 -/
mutual
def graftwoodlaw15_ReachEnds.l0 : Nat → List (S36) → List Int → Int → List (S36) → List Int → Option (Bool)
 | 0, _, _, _, _, _ => none
 | k + 1, x0, x5, x6, az, ak => if x6 < (ak.length : Int) then (if 0 ≤ x6 then ((graftwoodref11_Back.f k x0 (rd ak x6)).bind fun aA => (if (aA.length : Int) = 0 then (some false) else (if x6 > 0 then (if 0 ≤ (wrap64 (x6 - 1)) then (if (wrap64 (x6 - 1)) < (ak.length : Int) then (if (rd ak x6) ≤ (rd ak (wrap64 (x6 - 1))) then (some false) else (graftwoodlaw15_ReachEnds.l0 k x0 x5 (wrap64 (x6 + 1)) az ak)) else (none)) else (none)) else (graftwoodlaw15_ReachEnds.l0 k x0 x5 (wrap64 (x6 + 1)) az ak)))) else (none)) else (graftwoodlaw15_ReachEnds.l1 k x5 0 az ak)
def graftwoodlaw15_ReachEnds.l1 : Nat → List Int → Int → List (S36) → List Int → Option (Bool)
 | 0, _, _, _, _ => none
 | k + 1, x5, x7, az, ak => if x7 < (x5.length : Int) then (if 0 ≤ x7 then ((graftwoodref11_Has.f k ak (rd x5 x7)).bind fun aL => (if aL = true then (graftwoodlaw15_ReachEnds.l1 k x5 (wrap64 (x7 + 1)) az ak) else (some false))) else (none)) else (if ((decide ((x5.length : Int) > 0)) == (decide ((ak.length : Int) > 0))) = true then ((graftwoodlaw15_awake.f k).bind fun aM => (some aM)) else (some false))
end
def graftwoodlaw15_ReachEnds.f (k : Nat) (l0 : List (S36)) : Option (Bool) := (graftwoodlaw11_Few.f l0).bind fun aj => ((reach_Of.f k aj).bind fun bt361 => (if bt361.2.2 = 0 then ((graftwoodref11_Next.f k aj (-1)).bind fun ah => (graftwoodlaw15_ReachEnds.l0 k aj ah 0 bt361.1 bt361.2.1)) else ((graftwoodlaw15_awake.f k).bind fun aB => (some aB))))
theorem graftwoodlaw15_ReachEnds.mono_l : ∀ k, (∀ y0 y1 y2 y3 y4, LeO (graftwoodlaw15_ReachEnds.l0 k y0 y1 y2 y3 y4) (graftwoodlaw15_ReachEnds.l0 (k + 1) y0 y1 y2 y3 y4)) ∧ (∀ y0 y1 y2 y3, LeO (graftwoodlaw15_ReachEnds.l1 k y0 y1 y2 y3) (graftwoodlaw15_ReachEnds.l1 (k + 1) y0 y1 y2 y3))
 | 0 => ⟨fun _ _ _ _ _ r h => by simp [graftwoodlaw15_ReachEnds.l0] at h, fun _ _ _ _ r h => by simp [graftwoodlaw15_ReachEnds.l1] at h⟩
 | k + 1 => by
  obtain ⟨ih0, ih1⟩ := graftwoodlaw15_ReachEnds.mono_l k
  refine ⟨?_, ?_⟩
  ·intro y0 y1 y2 y3 y4
   unfold graftwoodlaw15_ReachEnds.l0
   repeat' first
   | (with_reducible exact ih0 _ _ _ _ _)
   | (with_reducible exact ih1 _ _ _ _)
   | (with_reducible exact graftwoodlaw15_awake.mono _)
   | (with_reducible exact graftwoodref11_Back.mono _ _ _)
   | (with_reducible exact graftwoodref11_Has.mono _ _ _)
   | (with_reducible exact graftwoodref11_Next.mono _ _ _)
   | (with_reducible exact reach_Of.mono _ _)
   | (with_reducible exact LeO.refl _)
   | (with_reducible exact LeO.none _)
   | (with_reducible refine LeO.ite ?_ ?_)
   | (with_reducible refine LeO.bind ?_ (fun _ => ?_))
   | exact ih0 _ _ _ _ _
   | exact ih1 _ _ _ _
   | exact graftwoodlaw15_awake.mono _
   | exact graftwoodref11_Back.mono _ _ _
   | exact graftwoodref11_Has.mono _ _ _
   | exact graftwoodref11_Next.mono _ _ _
   | exact reach_Of.mono _ _
   | exact LeO.none _
   | refine LeO.ite ?_ ?_
   | refine LeO.bind ?_ (fun _ => ?_)
  ·intro y0 y1 y2 y3
   unfold graftwoodlaw15_ReachEnds.l1
   repeat' first
   | (with_reducible exact ih0 _ _ _ _ _)
   | (with_reducible exact ih1 _ _ _ _)
   | (with_reducible exact graftwoodlaw15_awake.mono _)
   | (with_reducible exact graftwoodref11_Back.mono _ _ _)
   | (with_reducible exact graftwoodref11_Has.mono _ _ _)
   | (with_reducible exact graftwoodref11_Next.mono _ _ _)
   | (with_reducible exact reach_Of.mono _ _)
   | (with_reducible exact LeO.refl _)
   | (with_reducible exact LeO.none _)
   | (with_reducible refine LeO.ite ?_ ?_)
   | (with_reducible refine LeO.bind ?_ (fun _ => ?_))
   | exact ih0 _ _ _ _ _
   | exact ih1 _ _ _ _
   | exact graftwoodlaw15_awake.mono _
   | exact graftwoodref11_Back.mono _ _ _
   | exact graftwoodref11_Has.mono _ _ _
   | exact graftwoodref11_Next.mono _ _ _
   | exact reach_Of.mono _ _
   | exact LeO.none _
   | refine LeO.ite ?_ ?_
   | refine LeO.bind ?_ (fun _ => ?_)
theorem graftwoodlaw15_ReachEnds.mono : ∀ a0 k, LeO (graftwoodlaw15_ReachEnds.f k a0) (graftwoodlaw15_ReachEnds.f (k + 1) a0) := by
 intro a0 k
 obtain ⟨ih0, ih1⟩ := graftwoodlaw15_ReachEnds.mono_l k
 unfold graftwoodlaw15_ReachEnds.f
 repeat' first
   | (with_reducible exact ih0 _ _ _ _ _)
   | (with_reducible exact ih1 _ _ _ _)
   | (with_reducible exact graftwoodlaw15_awake.mono _)
   | (with_reducible exact graftwoodref11_Back.mono _ _ _)
   | (with_reducible exact graftwoodref11_Has.mono _ _ _)
   | (with_reducible exact graftwoodref11_Next.mono _ _ _)
   | (with_reducible exact reach_Of.mono _ _)
   | (with_reducible exact LeO.refl _)
   | (with_reducible exact LeO.none _)
   | (with_reducible refine LeO.ite ?_ ?_)
   | (with_reducible refine LeO.bind ?_ (fun _ => ?_))
   | exact ih0 _ _ _ _ _
   | exact ih1 _ _ _ _
   | exact graftwoodlaw15_awake.mono _
   | exact graftwoodref11_Back.mono _ _ _
   | exact graftwoodref11_Has.mono _ _ _
   | exact graftwoodref11_Next.mono _ _ _
   | exact reach_Of.mono _ _
   | exact LeO.none _
   | refine LeO.ite ?_ ?_
   | refine LeO.bind ?_ (fun _ => ?_)
def graftwoodlaw15_ReachEnds.T9 : Bool × List (List Nat × List Nat) := (true, [([], []), ([], []), ([1], [1]), ([], []), ([2, 3], [2, 3]), ([4], [4]), ([0, 5], [0, 5]), ([6], [6]), ([7], [7]), ([8, 6], [8]), ([9], [9]), ([10, 9], [9, 10]), ([11, 9, 9], [9, 11]), ([12], [12]), ([13, 12], [12, 13]), ([12], [12]), ([14, 15, 12], [12, 14, 15]), ([16, 12], [12, 16]), ([12], [12]), ([18, 12], [12, 18]), ([12], [12]), ([20, 12], [12, 20]), ([19, 21, 12], [12, 19, 21]), ([22, 12], [12, 22]), ([17, 23, 12], [12, 17, 23]), ([12, 24, 9], [9, 12, 24]), ([9, 25], [9, 25])])
def graftwoodlaw15_ReachEnds.B9 : List Nat := [0, 0, 2, 0, 14, 30, 63, 127, 255, 511, 1023, 2047, 4095, 8191, 16383, 8191, 65535, 131071, 8191, 270335, 8191, 1056767, 3940351, 8134655, 16777215, 33554431, 67108863]
theorem graftwoodlaw15_ReachEnds.tab9 : rtab .any (opsOf Try.f5 9) = graftwoodlaw15_ReachEnds.T9 := by kernel_rfl
theorem graftwoodlaw15_ReachEnds.bits9 : waitsOk graftwoodlaw15_ReachEnds.T9.2 graftwoodlaw15_ReachEnds.B9 = true := by kernel_rfl
def graftwoodlaw15_ReachEnds.T14 : Bool × List (List Nat × List Nat) := (true, [([], []), ([0], [0]), ([], []), ([], []), ([2, 3], [2, 3]), ([4], [4]), ([1, 5], [1, 5]), ([6], [6])])
def graftwoodlaw15_ReachEnds.B14 : List Nat := [0, 1, 0, 0, 12, 28, 63, 127]
theorem graftwoodlaw15_ReachEnds.tab14 : rtab .any (opsOf Try.f5 14) = graftwoodlaw15_ReachEnds.T14 := by kernel_rfl
theorem graftwoodlaw15_ReachEnds.bits14 : waitsOk graftwoodlaw15_ReachEnds.T14.2 graftwoodlaw15_ReachEnds.B14 = true := by kernel_rfl
set_option maxHeartbeats 8000000 in
set_option maxRecDepth 100000 in
theorem graftwoodlaw15_ReachEnds.calls (k : Nat) (A0 : Option Addr) (c0 : Nat) (l0 : List (S36)) (r : Bool) (w : World) (hr0 : Kd.C k36 w A0 l0.length l0) (hc0 : l0.length ≤ c0) (h : graftwoodlaw15_ReachEnds.f k l0 = some r) (hR_ : r = true) :
  Calls Try.prog 5 #[.slice A0 l0.length c0] w fun e w' => e = .returned (.bool r) ∧ Below w.heap.size w w' := by
 have hu25 := Try.underlying25
 have HR0 := Aside0.mk hr0
 have HC0 := Aside0.mk hc0
 clear hr0 hc0
 have HB := am (Below.refl w.heap.size w)
 have H : ((graftwoodlaw11_Few.f l0).bind fun aj => ((reach_Of.f k aj).bind fun bt361 => (if bt361.2.2 = 0 then ((graftwoodref11_Next.f k aj (-1)).bind fun ah => (graftwoodlaw15_ReachEnds.l0 k aj ah 0 bt361.1 bt361.2.1)) else ((graftwoodlaw15_awake.f k).bind fun aB => (some aB))))) = some r := h
 clear h
 replace H := Option.bind_eq_some_iff.mp H
 obtain ⟨aj, A20, H⟩ := H
 replace H : ((reach_Of.f k aj).bind fun bt361 => (if bt361.2.2 = 0 then ((graftwoodref11_Next.f k aj (-1)).bind fun ah => (graftwoodlaw15_ReachEnds.l0 k aj ah 0 bt361.1 bt361.2.1)) else ((graftwoodlaw15_awake.f k).bind fun aB => (some aB)))) = some r := H
 have A2 := Aside0.mk A20
 clear A20
 replace H := Option.bind_eq_some_iff.mp H
 obtain ⟨⟨ag, ac, aE⟩, A30, H⟩ := H
 replace H : (if aE = 0 then ((graftwoodref11_Next.f k aj (-1)).bind fun ah => (graftwoodlaw15_ReachEnds.l0 k aj ah 0 ag ac)) else ((graftwoodlaw15_awake.f k).bind fun aB => (some aB))) = some r := H
 have A3 := Aside0.mk A30
 clear A30
 by_cases c4 : aE = 0
 ·rw [if_pos c4] at H
  have bb : (aE == 0) = true := beq_iff_eq.mpr c4
  have bc : (aE != 0) = false := bne_eq_false_iff_eq.mpr c4
  clear c4
  replace H := Option.bind_eq_some_iff.mp H
  obtain ⟨ah, A50, H⟩ := H
  replace H : (graftwoodlaw15_ReachEnds.l0 k aj ah 0 ag ac) = some r := H
  have A5 := Aside0.mk A50
  clear A50
  have H' := Aside0.mk H
  clear H
  go_enter Try.func5, Try.ntmps5
  go_wp2_with (first | ((with_reducible refine gate_callee (f := 21) rfl ?_); refine gL (some 9) Try.func21 #[.slice A0 l0.length c0] ?_; (with_reducible refine (graftwoodlaw11_Few.calls (fun k_ => k_ < w.heap.size) _ _ l0 aj _ ?side1 A2.out).mono ?_); (case side1 => exact Kd.V_mk HC0.out (Kd.F_below (Kd.C_F k36_heap HR0.out) (by repeat (first | (with_reducible first | exact HB.out | apply pA | apply pN | apply pD) | exact HB.out)))); rintro e w6 ⟨bF, rfl, ho0, hb⟩; refine ⟨_, rfl, ?_⟩; have ai := am (Kd.V_lower (Kd.V_mono (ok' := fun k_ => True) ho0 (fun k_ hk_ => trivial)) (below_size (by repeat (first | (with_reducible first | exact HB.out | apply pA | apply pN | apply pD) | exact HB.out)))); replace HB := am (below_step (by repeat (first | (with_reducible first | exact HB.out | apply pA | apply pN | apply pD) | exact HB.out)) hb); (try clear hb); (try clear hb2); (try clear hk); (try clear hi); (try clear ho0); obtain ⟨Ao7, co7, eo7⟩ := Kd.V_slice ai.out; subst eo7) | ((with_reducible refine gate_callee (f := 22) rfl ?_); refine gL (some 12) Try.func22 #[.slice Ao7 aj.length co7] ?_; (with_reducible refine (reach_Of.calls k _ _ aj ag ac aE _ ?side1 ?side2 A3.out).mono ?_); (case side1 => exact cW (Kd.V_reads' ai.out).2.2); (case side2 => exact (Kd.V_reads' ai.out).2.1); rintro e w8 ⟨bG, bH, rfl, ho0, ho1, hb⟩; refine ⟨_, rfl, ?_⟩; replace ai := am (Kd.V_mono (Kd.V_told (Kd.V_told (Kd.V_old (vT ai.out) hb) (Kd.R_base ho0)) (Kd.R_base ho1)) (fun _ h_ => h_.1)); have au := am (Kd.R_lower ho0 (below_size (by repeat (first | (with_reducible first | exact HB.out | apply pA | apply pN | apply pD) | exact HB.out)))); have ao := am (Kd.R_lower ho1 (below_size (by repeat (first | (with_reducible first | exact HB.out | apply pA | apply pN | apply pD) | exact HB.out)))); replace HB := am (below_step (by repeat (first | (with_reducible first | exact HB.out | apply pA | apply pN | apply pD) | exact HB.out)) hb); (try clear hb); (try clear hb2); (try clear hk); (try clear hi); (try clear ho0); (try clear ho1)) | ((with_reducible refine gate_dst (N := 3) rfl ?_); refine box_event ?hg (N := 3) ?hd (cs := #[.slice none 0 0, .slice none 0 0]) (t := 25) ?hr ?_; (case hd => rfl); (case hg => rfl); (case hr => first | (go_simp; done) | (go_simp; rfl)); intro ad hg w9 hbox hb; replace ai := am (Kd.V_below (Kd.V_elderB (vT ai.out) ad (Nat.le_of_eq hg.symm)) hb); replace au := am (rB au.out hb); replace ao := am (rB ao.out hb); have aa := am (hbox); have be := am ((by rw [hg]; exact (below_size (by repeat (first | (with_reducible first | exact HB.out | apply pA | apply pN | apply pD) | exact HB.out))) : w.heap.size ≤ ad)); have bf := am ((by rw [hg]; exact (below_size (by repeat (first | (with_reducible first | exact HB.out | apply pA | apply pN | apply pD) | exact HB.out))) : w.heap.size ≤ ad)); replace HB := am (below_step (by repeat (first | (with_reducible first | exact HB.out | apply pA | apply pN | apply pD) | exact HB.out)) hb); clear hb hbox hg; obtain ⟨ap, aq, bI⟩ := Kd.R_slice au.out; subst bI; have aN : w9.cell? ⟨ad, 0, none⟩ = some (.slice none 0 0) := cT aa 0; have aO : w9.cell? ⟨ad, 1, none⟩ = some (.slice none 0 0) := cT aa 1; have aP := blk_frozen aa.out 0; have aQ := blk_frozen aa.out 1; obtain ⟨ar, an, bJ⟩ := Kd.R_slice ao.out; subst bJ) | ((with_reducible refine gate_callee (f := 23) rfl ?_); refine gL (some 19) Try.func23 #[.slice Ao7 aj.length co7, .int .i64 (-1)] ?_; (with_reducible refine (graftwoodref11_Next.calls k _ _ aj (-1) ah _ ?side1 ?side2 A5.out).mono ?_); (case side1 => refine (Kd.V_reads' (e := 36) (base := w.heap.size) (ok := fun k_ => (((True ∧ some k_ ≠ (.slice ap ag.length aq : Value).ownBlock) ∧ some k_ ≠ (.slice ar ac.length an : Value).ownBlock) ∧ k_ ≠ ad)) (n := aj.length) (c := co7) ?_).2.2; exact (by (with_reducible repeat (first | apply Kd.V_alloc | apply Kd.V_drewN | apply Kd.V_drew)); exact (Kd.V_mono (Kd.V_far (p := ⟨ad, 1, none⟩) (Kd.V_far (p := ⟨ad, 0, none⟩) (Kd.V_mono ai.out (fun k_ hk => (⟨hk, hk.2⟩ : _ ∧ k_ ≠ ad))) (fun _ hk => hk.2) (.slice ap ag.length aq)) (fun _ hk => hk.2) (.slice ar ac.length an)) (fun _ h_ => h_.1)))); (case side2 => exact (Kd.V_reads' ai.out).2.1); rintro e w13 ⟨aH, rfl, ho0, hb⟩; refine ⟨_, rfl, ?_⟩; replace ai := am (Kd.V_elder' (by (with_reducible repeat (first | apply Kd.V_alloc | apply Kd.V_drewN | apply Kd.V_drew)); exact (Kd.V_mono (Kd.V_far (p := ⟨ad, 1, none⟩) (Kd.V_far (p := ⟨ad, 0, none⟩) (Kd.V_mono ai.out (fun k_ hk => (⟨hk, hk.2⟩ : _ ∧ k_ ≠ ad))) (fun _ hk => hk.2) (.slice ap ag.length aq)) (fun _ hk => hk.2) (.slice ar ac.length an)) (fun _ h_ => h_.1))) (Kd.R_base ho0) hb); replace au := am (Kd.R_below (by (with_reducible repeat (first | apply Kd.R_alloc | apply Kd.R_drewN | apply Kd.R_drew)); exact (Kd.R_mono (Kd.R_far (p := ⟨ad, 1, none⟩) (Kd.R_far (p := ⟨ad, 0, none⟩) (Kd.R_types au.out aa.out (by decide)) (fun _ hk => hk.2) (.slice ap ag.length aq)) (fun _ hk => hk.2) (.slice ar ac.length an)) (fun _ h_ => h_.1))) hb); have bg := am (Kd.R_lower (Kd.R_new' ho0 (Kd.R_lt (by (with_reducible repeat (first | apply Kd.R_alloc | apply Kd.R_drewN | apply Kd.R_drew)); exact (Kd.R_mono (Kd.R_far (p := ⟨ad, 1, none⟩) (Kd.R_far (p := ⟨ad, 0, none⟩) (Kd.R_types ao.out aa.out (by decide)) (fun _ hk => hk.2) (.slice ap ag.length aq)) (fun _ hk => hk.2) (.slice ar ac.length an)) (fun _ h_ => h_.1))))) (below_size (by repeat (first | (with_reducible first | exact HB.out | apply pA | apply pN | apply pD | refine eU ?_ (by assumption)) | exact HB.out)))); replace ao := am (Kd.R_elder' (by (with_reducible repeat (first | apply Kd.R_alloc | apply Kd.R_drewN | apply Kd.R_drew)); exact (Kd.R_mono (Kd.R_far (p := ⟨ad, 1, none⟩) (Kd.R_far (p := ⟨ad, 0, none⟩) (Kd.R_types ao.out aa.out (by decide)) (fun _ hk => hk.2) (.slice ap ag.length aq)) (fun _ hk => hk.2) (.slice ar ac.length an)) (fun _ h_ => h_.1))) (Kd.R_base ho0) hb); replace HB := am (below_step (by repeat (first | (with_reducible first | exact HB.out | apply pA | apply pN | apply pD | refine eU ?_ (by assumption)) | exact HB.out)) hb); replace aa := am (blk_below (g := ad) (o := .cells #[.slice ap ag.length aq, .slice ar ac.length an] 25 (0, 0)) (by (with_reducible repeat (first | apply bn | apply bd | apply ba)); refine blk_put (cs := #[.slice ap ag.length aq, .slice none 0 0]) ?_ 1 _ rfl; (with_reducible repeat (first | apply bn | apply bd | apply ba)); refine blk_put (cs := #[.slice none 0 0, .slice none 0 0]) ?_ 0 _ rfl; exact bT aa.out) hb); (try clear hb); (try clear hb2); (try clear hk); (try clear hi); (try clear ho0)))
  go_loopg [6] k (fun kq v6 w' => ∃ (af : Int), v6 = .int .i64 af ∧ Aside0 (graftwoodlaw15_ReachEnds.l0 kq aj ah af ag ac = some r) ∧ Aside0 (kq ≤ k) ∧ Aside0 (Kd.V k36 36 w' w.heap.size (fun k_ => some k_ ≠ (aH : Value).ownBlock ∧ some k_ ≠ ((.slice ap ag.length aq) : Value).ownBlock ∧ some k_ ≠ ((.slice ar ac.length an) : Value).ownBlock ∧ k_ ≠ ad) (.slice Ao7 aj.length co7) aj) ∧ Aside0 (Kd.R (Kd.int .i64) 3 w' w.heap.size (fun k_ => some k_ ≠ ((.slice ar ac.length an) : Value).ownBlock) aH ah) ∧ Aside0 (Kd.R k36 36 w' w.heap.size (fun _ => True) (.slice ap ag.length aq) ag) ∧ Aside0 (Kd.R (Kd.int .i64) 3 w' w.heap.size (fun k_ => some k_ ≠ (aH : Value).ownBlock) (.slice ar ac.length an) ac) ∧ Aside0 (w'.heap[ad]? = some (.cells #[(.slice ap ag.length aq), (.slice ar ac.length an)] 25 (0, 0))) ∧ Aside0 (Below w.heap.size w w'))
  case atStart => exact ⟨(0), (by first | rfl | (simp; done) | (simp [*]; done)), H', ⟨Nat.le_refl _⟩, ⟨by (with_reducible repeat (first | apply Kd.V_alloc | apply Kd.V_drewN | apply Kd.V_drew)); exact Kd.V_mono ai.out (fun _ hk => ⟨hk.2, ⟨hk.1.1.1.2, ⟨hk.1.1.2, hk.1.2⟩⟩⟩)⟩, ⟨by (with_reducible repeat (first | apply Kd.R_alloc | apply Kd.R_drewN | apply Kd.R_drew)); exact Kd.R_mono bg.out (fun _ hk => hk.2)⟩, ⟨rT au.out⟩, ⟨by (with_reducible repeat (first | apply Kd.R_alloc | apply Kd.R_drewN | apply Kd.R_drew)); exact Kd.R_mono ao.out (fun _ hk => hk.2)⟩, ⟨bT aa.out⟩, ⟨eT HB.out⟩⟩
  case round =>
   clear H'
   try clear c2
   try clear p2
   try clear c4
   try clear bb
   try clear bc
   try clear c5
   try clear aN
   try clear aO
   try clear aP
   try clear aQ
   obtain ⟨af, rfl, HA, HK1, ax, al, ae, ab, aa, HB⟩ := hrel
   cases gk with
   | zero => exact absurd HA.out (by simp [graftwoodlaw15_ReachEnds.l0])
   | succ k1 =>
    have H := HA.out
    clear HA
    simp only [graftwoodlaw15_ReachEnds.l0] at H
    by_cases c14 : af < (ac.length : Int)
    ·rw [if_pos c14] at H
     have a8 : decide (af < (ac.length : Int)) = true := decide_eq_true c14
     clear c14
     by_cases c15 : 0 ≤ af
     ·rw [if_pos c15] at H
      have bU : decide (0 ≤ af) = true := decide_eq_true c15
      clear c15
      replace H := Option.bind_eq_some_iff.mp H
      obtain ⟨aA, bh, H⟩ := H
      replace H : (if (aA.length : Int) = 0 then (some false) else (if af > 0 then (if 0 ≤ (wrap64 (af - 1)) then (if (wrap64 (af - 1)) < (ac.length : Int) then (if (rd ac af) ≤ (rd ac (wrap64 (af - 1))) then (some false) else (graftwoodlaw15_ReachEnds.l0 k1 aj ah (wrap64 (af + 1)) ag ac)) else (none)) else (none)) else (graftwoodlaw15_ReachEnds.l0 k1 aj ah (wrap64 (af + 1)) ag ac))) = some r := H
      have A16 := Aside0.mk bh
      clear bh
      by_cases c17 : (aA.length : Int) = 0
      ·rw [if_pos c17] at H
       have bi : ((aA.length : Int) == 0) = true := beq_iff_eq.mpr c17
       have bj : ((aA.length : Int) != 0) = false := bne_eq_false_iff_eq.mpr c17
       clear c17
       exact absurd ((Option.some.inj H).trans hR_) (by decide)
      ·rw [if_neg c17] at H
       have bi : ((aA.length : Int) == 0) = false := beq_eq_false_iff_ne.mpr c17
       have bj : ((aA.length : Int) != 0) = true := bne_iff_ne.mpr c17
       have bV : ¬ (aA = []) := fun h_ => c17 (by rw [h_]; rfl)
       by_cases c22 : af > 0
       ·rw [if_pos c22] at H
        have a9 : decide (0 < af) = true := decide_eq_true c22
        clear c22
        obtain ⟨ay, aF⟩ : ∃ j_ : Int, (wrap64 (af - 1)) = j_ := ⟨_, rfl⟩
        replace H : (if 0 ≤ (ay) then (if (ay) < (ac.length : Int) then (if (rd ac af) ≤ (rd ac (ay)) then (some false) else (graftwoodlaw15_ReachEnds.l0 k1 aj ah (wrap64 (af + 1)) ag ac)) else (none)) else (none)) = some r := by first | (rw [aF] at H; exact H) | (simp only [aF] at H ⊢; exact H)
        (try rw [aF] at A16)
        have bK : (IntKind.i64.wrap (af - 1)) = ay := (i64_w _).trans aF
        by_cases c24 : 0 ≤ (ay)
        ·rw [if_pos c24] at H
         have bW : decide (0 ≤ (ay)) = true := decide_eq_true c24
         clear c24
         by_cases c25 : (ay) < (ac.length : Int)
         ·rw [if_pos c25] at H
          have bX : decide ((ay) < (ac.length : Int)) = true := decide_eq_true c25
          clear c25
          by_cases c26 : (rd ac af) ≤ (rd ac (ay))
          ·rw [if_pos c26] at H
           have a_ : decide ((rd ac af) ≤ (rd ac (ay))) = true := decide_eq_true c26
           clear c26
           exact absurd ((Option.some.inj H).trans hR_) (by decide)
          ·rw [if_neg c26] at H
           have a_ : decide ((rd ac af) ≤ (rd ac (ay))) = false := decide_eq_false c26
           clear c26
           have H' := Aside0.mk H
           clear H
           have aR : wr.cell? ⟨ad, 0, none⟩ = some (.slice ap ag.length aq) := cT aa 0
           have aU : wr.cell? ⟨ad, 1, none⟩ = some (.slice ar ac.length an) := cT aa 1
           have aV := blk_frozen aa.out 0
           have aW := blk_frozen aa.out 1
           try go_wp2
           replace ax := am (Kd.V_drew ax.out)
           replace al := am (Kd.R_drew al.out)
           replace ae := am (Kd.R_drew ae.out)
           replace ab := am (Kd.R_drew ab.out)
           replace aa := am (blk_drew aa.out)
           replace HB := am (below_drew1 HB.out)
           have p373 : 0 ≤ (af : Int) := of_decide_eq_true (by first | (with_reducible assumption) | assumption)
           have q373 : af < (ac.length : Int) := of_decide_eq_true (by first | (with_reducible assumption) | assumption)
           obtain ⟨ad373, e373, aw⟩ := Kd.at_int (Kd.R_reads' ab.out).2.2 af p373 q373
           cases e373
           replace p373 := eq_true p373
           replace q373 := eq_true q373
           have p377 : 0 ≤ (af : Int) := of_decide_eq_true (by first | (with_reducible assumption) | assumption)
           have q377 : af < (ac.length : Int) := of_decide_eq_true (by first | (with_reducible assumption) | assumption)
           obtain ⟨ad377, e377, aC⟩ := Kd.at_int (Kd.R_reads' ab.out).2.2 af p377 q377
           obtain rfl : ad373 = ad377 := (by injection e377)
           replace p377 := eq_true p377
           replace q377 := eq_true q377
           have p378 : 0 ≤ ((ay) : Int) := of_decide_eq_true (by first | (with_reducible assumption) | assumption)
           have q378 : (ay) < (ac.length : Int) := of_decide_eq_true (by first | (with_reducible assumption) | assumption)
           obtain ⟨ad378, e378, aD⟩ := Kd.at_int (Kd.R_reads' ab.out).2.2 (ay) p378 q378
           obtain rfl : ad373 = ad378 := (by injection e378)
           replace p378 := eq_true p378
           replace q378 := eq_true q378
           refine start_ (n := 27) (S := fun w' => w'.cell? ⟨ad, 0, none⟩ = some (.slice ap ag.length aq) ∧ w'.cell? ⟨ad, 1, none⟩ = some (.slice (some ad373) ac.length an) ∧ w'.cell? (ad373.add (af).toNat) = some (.int .i64 (rd ac af)) ∧ w'.cell? (ad373.add (af).toNat) = some (.int .i64 (rd ac af)) ∧ w'.cell? (ad373.add ((ay)).toNat) = some (.int .i64 (rd ac (ay)))) (ds := []) (bA 27 0) (by kernel_rfl) rfl (by kernel_rfl) ⟨cT aa 0, cT aa 1, aw, aC, aD⟩ (fun hHeld => ?_); refine with_tabW graftwoodlaw15_ReachEnds.tab9 graftwoodlaw15_ReachEnds.bits9 (fun HT_ HW_ => ?_)
           generalize wr.drew = w32 at ax al ae ab aa HB aw aC aD hHeld ⊢
           refine pT 0 27 (bA 27 1) HT_.out ?_
           refine pT 1 28 (bA 27 3) HT_.out ?_
           refine pT 3 30 (bA 27 11) HT_.out ?_
           refine tT 2 29 (bA 27 15) HT_.out HW_.out hHeld ?_ (hy := by rintro w' ⟨s0, s1, s2, s3, s4⟩; go_simp; with_reducible rfl)
           refine pT 4 31 (bA 27 31) HT_.out ?_
           refine tT 5 32 (bA 27 63) HT_.out HW_.out hHeld ?_ (hy := by rintro w' ⟨s0, s1, s2, s3, s4⟩; go_simp; with_reducible rfl)
           refine oT 6 (bA 27 127) HT_.out fun K hK => ?_
           refine gS Try.func24 #[.slice Ao7 aj.length co7, .int .i64 (rd ac af)] ?_
           with_reducible refine (graftwoodref11_Back.calls k1 _ _ aj (rd ac af) aA _ ?side1 ?side2 A16.out).mono ?_
           (case side1 => exact cW (Kd.V_reads' ax.out).2.2)
           (case side2 => exact (Kd.V_reads' ax.out).2.1)
           rintro e w33 ⟨bL, rfl, ho0, hb⟩
           have HS2_ := (hb.cell (World.block_lt_of_cell? _ _ (hHeld.2.2.1))).trans (hHeld.2.2.1)
           have HS3_ := (hb.cell (World.block_lt_of_cell? _ _ (hHeld.2.2.2.1))).trans (hHeld.2.2.2.1)
           have HS4_ := (hb.cell (World.block_lt_of_cell? _ _ (hHeld.2.2.2.2))).trans (hHeld.2.2.2.2)
           refine ⟨_, rfl, ?_⟩
           replace ax := am (Kd.V_elder' (vT ax.out) (Kd.R_base ho0) hb)
           replace ae := am (rB ae.out hb)
           have aI := am (Kd.R_lower (Kd.R_new' (Kd.R_new' ho0 (Kd.R_lt (rT al.out))) (Kd.R_lt (rT ab.out))) (below_size (eT HB.out)))
           replace aa := am (bB aa.out hb)
           replace al := am (Kd.R_elder' (rT al.out) (Kd.R_base ho0) hb)
           replace ab := am (Kd.R_elder' (rT ab.out) (Kd.R_base ho0) hb)
           replace HB := am (sT HB.out hb)
           (try clear hb)
           (try clear hb2)
           (try clear hk)
           (try clear hi)
           (try clear ho0)
           obtain ⟨b2, b3, bk⟩ := Kd.R_slice aI.out
           (first | subst bk | (injection bk with f1_ f2_ f3_; have f4_ := f1_.symm; have f5_ := f3_.symm; clear f1_ f2_ f3_; subst f4_; subst f5_))
           refine hK.out _ _ ⟨cT aa 0, cT aa 1, HS2_, HS3_, HS4_⟩ (fun hHeld => ?_)
           clear hK K
           refine mN 33 ?_
           refine pT 7 34 (bA 27 255) HT_.out ?_
           refine pT 8 35 (bA 27 511) HT_.out ?_
           refine pT 9 36 (bA 27 1023) HT_.out ?_
           refine pT 10 37 (bA 27 2047) HT_.out ?_
           refine pT 11 38 (bA 27 4095) HT_.out ?_
           refine pT 12 39 (bA 27 8191) HT_.out ?_
           refine pT 13 40 (bA 27 16383) HT_.out ?_
           refine pT 15 42 (bA 27 49151) HT_.out ?_
           refine pT 18 45 (bA 27 311295) HT_.out ?_
           refine pT 20 47 (bA 27 1359871) HT_.out ?_
           refine pT 21 48 (bA 27 3457023) HT_.out ?_
           refine tT 14 41 (bA 27 3473407) HT_.out HW_.out hHeld ?_ (hy := by rintro w' ⟨s0, s1, s2, s3, s4⟩; go_simp; with_reducible rfl)
           refine pT 16 43 (bA 27 3538943) HT_.out ?_
           refine tT 17 44 (bA 27 3670015) HT_.out HW_.out hHeld ?_ (hy := by rintro w' ⟨s0, s1, s2, s3, s4⟩; go_simp; with_reducible rfl)
           refine tT 19 46 (bA 27 4194303) HT_.out HW_.out hHeld ?_ (hy := by rintro w' ⟨s0, s1, s2, s3, s4⟩; go_simp; with_reducible rfl)
           refine pT 22 49 (bA 27 8388607) HT_.out ?_
           refine tT 23 50 (bA 27 16777215) HT_.out HW_.out hHeld ?_ (hy := by rintro w' ⟨s0, s1, s2, s3, s4⟩; go_simp; with_reducible rfl)
           refine pT 24 51 (bA 27 33554431) HT_.out ?_
           refine pT 25 52 (bA 27 67108863) HT_.out ?_
           refine pT 26 53 (bA 27 134217727) HT_.out ?_
           refine done_ (done_of HT_.out (by kernel_rfl)) ?_
           try go_wp2
           go_roundg k1
           case measure => have := HK1.out; omega
           case rel => exact ⟨(wrap64 (af + 1)), (by first | rfl | (simp; done) | (simp [*]; done)), H', ⟨by have := HK1.out; omega⟩, ⟨by (with_reducible repeat (first | apply Kd.V_alloc | apply Kd.V_drewN | apply Kd.V_drew)); exact Kd.V_mono ax.out (fun _ hk => ⟨hk.1.1, ⟨hk.1.2.1, ⟨hk.1.2.2.1, hk.1.2.2.2⟩⟩⟩)⟩, ⟨by (with_reducible repeat (first | apply Kd.R_alloc | apply Kd.R_drewN | apply Kd.R_drew)); exact Kd.R_mono al.out (fun _ hk => hk.1)⟩, ⟨rT ae.out⟩, ⟨by (with_reducible repeat (first | apply Kd.R_alloc | apply Kd.R_drewN | apply Kd.R_drew)); exact Kd.R_mono ab.out (fun _ hk => hk.1)⟩, ⟨bT aa.out⟩, ⟨eT HB.out⟩⟩
         ·rw [if_neg c25] at H
          exact absurd H (by simp)
        ·rw [if_neg c24] at H
         exact absurd H (by simp)
       ·rw [if_neg c22] at H
        have a9 : decide (0 < af) = false := decide_eq_false c22
        clear c22
        have H' := Aside0.mk H
        clear H
        have aX : wr.cell? ⟨ad, 0, none⟩ = some (.slice ap ag.length aq) := cT aa 0
        have aY : wr.cell? ⟨ad, 1, none⟩ = some (.slice ar ac.length an) := cT aa 1
        have aZ := blk_frozen aa.out 0
        have a1 := blk_frozen aa.out 1
        try go_wp2
        replace ax := am (Kd.V_drew ax.out)
        replace al := am (Kd.R_drew al.out)
        replace ae := am (Kd.R_drew ae.out)
        replace ab := am (Kd.R_drew ab.out)
        replace aa := am (blk_drew aa.out)
        replace HB := am (below_drew1 HB.out)
        have p373 : 0 ≤ (af : Int) := of_decide_eq_true (by first | (with_reducible assumption) | assumption)
        have q373 : af < (ac.length : Int) := of_decide_eq_true (by first | (with_reducible assumption) | assumption)
        obtain ⟨ad373, e373, aw⟩ := Kd.at_int (Kd.R_reads' ab.out).2.2 af p373 q373
        cases e373
        replace p373 := eq_true p373
        replace q373 := eq_true q373
        refine start_ (n := 27) (S := fun w' => w'.cell? ⟨ad, 0, none⟩ = some (.slice ap ag.length aq) ∧ w'.cell? ⟨ad, 1, none⟩ = some (.slice (some ad373) ac.length an) ∧ w'.cell? (ad373.add (af).toNat) = some (.int .i64 (rd ac af))) (ds := []) (bA 27 0) (by kernel_rfl) rfl (by kernel_rfl) ⟨cT aa 0, cT aa 1, aw⟩ (fun hHeld => ?_); refine with_tabW graftwoodlaw15_ReachEnds.tab9 graftwoodlaw15_ReachEnds.bits9 (fun HT_ HW_ => ?_)
        generalize wr.drew = w36 at ax al ae ab aa HB aw hHeld ⊢
        refine pT 0 27 (bA 27 1) HT_.out ?_
        refine pT 1 28 (bA 27 3) HT_.out ?_
        refine pT 3 30 (bA 27 11) HT_.out ?_
        refine tT 2 29 (bA 27 15) HT_.out HW_.out hHeld ?_ (hy := by rintro w' ⟨s0, s1, s2⟩; go_simp; with_reducible rfl)
        refine pT 4 31 (bA 27 31) HT_.out ?_
        refine tT 5 32 (bA 27 63) HT_.out HW_.out hHeld ?_ (hy := by rintro w' ⟨s0, s1, s2⟩; go_simp; with_reducible rfl)
        refine oT 6 (bA 27 127) HT_.out fun K hK => ?_
        refine gS Try.func24 #[.slice Ao7 aj.length co7, .int .i64 (rd ac af)] ?_
        with_reducible refine (graftwoodref11_Back.calls k1 _ _ aj (rd ac af) aA _ ?side1 ?side2 A16.out).mono ?_
        (case side1 => exact cW (Kd.V_reads' ax.out).2.2)
        (case side2 => exact (Kd.V_reads' ax.out).2.1)
        rintro e w37 ⟨bL, rfl, ho0, hb⟩
        have HS2_ := (hb.cell (World.block_lt_of_cell? _ _ (hHeld.2.2))).trans (hHeld.2.2)
        refine ⟨_, rfl, ?_⟩
        replace ax := am (Kd.V_elder' (vT ax.out) (Kd.R_base ho0) hb)
        replace ae := am (rB ae.out hb)
        have aI := am (Kd.R_lower (Kd.R_new' (Kd.R_new' ho0 (Kd.R_lt (rT al.out))) (Kd.R_lt (rT ab.out))) (below_size (eT HB.out)))
        replace aa := am (bB aa.out hb)
        replace al := am (Kd.R_elder' (rT al.out) (Kd.R_base ho0) hb)
        replace ab := am (Kd.R_elder' (rT ab.out) (Kd.R_base ho0) hb)
        replace HB := am (sT HB.out hb)
        (try clear hb)
        (try clear hb2)
        (try clear hk)
        (try clear hi)
        (try clear ho0)
        obtain ⟨b4, b5, bl⟩ := Kd.R_slice aI.out
        (first | subst bl | (injection bl with f1_ f2_ f3_; have f4_ := f1_.symm; have f5_ := f3_.symm; clear f1_ f2_ f3_; subst f4_; subst f5_))
        refine hK.out _ _ ⟨cT aa 0, cT aa 1, HS2_⟩ (fun hHeld => ?_)
        clear hK K
        refine mN 33 ?_
        refine pT 7 34 (bA 27 255) HT_.out ?_
        refine pT 8 35 (bA 27 511) HT_.out ?_
        refine pT 9 36 (bA 27 1023) HT_.out ?_
        refine pT 10 37 (bA 27 2047) HT_.out ?_
        refine pT 11 38 (bA 27 4095) HT_.out ?_
        refine pT 12 39 (bA 27 8191) HT_.out ?_
        refine pU 13 40 (bA 27 16383) HT_.out ?_
        refine pU 14 41 (bA 27 32767) HT_.out ?_
        refine pU 15 42 (bA 27 65535) HT_.out ?_
        refine pU 16 43 (bA 27 131071) HT_.out ?_
        refine pU 17 44 (bA 27 262143) HT_.out ?_
        refine pU 18 45 (bA 27 524287) HT_.out ?_
        refine pU 19 46 (bA 27 1048575) HT_.out ?_
        refine pU 20 47 (bA 27 2097151) HT_.out ?_
        refine pU 21 48 (bA 27 4194303) HT_.out ?_
        refine pU 22 49 (bA 27 8388607) HT_.out ?_
        refine pU 23 50 (bA 27 16777215) HT_.out ?_
        refine pU 24 51 (bA 27 33554431) HT_.out ?_
        refine pT 25 52 (bA 27 67108863) HT_.out ?_
        refine pT 26 53 (bA 27 134217727) HT_.out ?_
        refine done_ (done_of HT_.out (by kernel_rfl)) ?_
        try go_wp2
        go_roundg k1
        case measure => have := HK1.out; omega
        case rel => exact ⟨(wrap64 (af + 1)), (by first | rfl | (simp; done) | (simp [*]; done)), H', ⟨by have := HK1.out; omega⟩, ⟨by (with_reducible repeat (first | apply Kd.V_alloc | apply Kd.V_drewN | apply Kd.V_drew)); exact Kd.V_mono ax.out (fun _ hk => ⟨hk.1.1, ⟨hk.1.2.1, ⟨hk.1.2.2.1, hk.1.2.2.2⟩⟩⟩)⟩, ⟨by (with_reducible repeat (first | apply Kd.R_alloc | apply Kd.R_drewN | apply Kd.R_drew)); exact Kd.R_mono al.out (fun _ hk => hk.1)⟩, ⟨rT ae.out⟩, ⟨by (with_reducible repeat (first | apply Kd.R_alloc | apply Kd.R_drewN | apply Kd.R_drew)); exact Kd.R_mono ab.out (fun _ hk => hk.1)⟩, ⟨bT aa.out⟩, ⟨eT HB.out⟩⟩
     ·rw [if_neg c15] at H
      exact absurd H (by simp)
    ·rw [if_neg c14] at H
     have a8 : decide (af < (ac.length : Int)) = false := decide_eq_false c14
     clear c14
     have H' := Aside0.mk H
     clear H
     have a2 : wr.cell? ⟨ad, 0, none⟩ = some (.slice ap ag.length aq) := cT aa 0
     have a3 : wr.cell? ⟨ad, 1, none⟩ = some (.slice ar ac.length an) := cT aa 1
     have a4 := blk_frozen aa.out 0
     have a5 := blk_frozen aa.out 1
     go_wp2
     go_loopg [7] k1 (fun kq v7 w' => ∃ (av : Int), v7 = .int .i64 av ∧ Aside0 (graftwoodlaw15_ReachEnds.l1 kq ah av ag ac = some r) ∧ Aside0 (kq ≤ k1) ∧ Aside0 (Kd.R (Kd.int .i64) 3 w' w.heap.size (fun k_ => some k_ ≠ ((.slice ar ac.length an) : Value).ownBlock) aH ah) ∧ Aside0 (Kd.R k36 36 w' w.heap.size (fun _ => True) (.slice ap ag.length aq) ag) ∧ Aside0 (Kd.R (Kd.int .i64) 3 w' w.heap.size (fun k_ => some k_ ≠ (aH : Value).ownBlock) (.slice ar ac.length an) ac) ∧ Aside0 (w'.heap[ad]? = some (.cells #[(.slice ap ag.length aq), (.slice ar ac.length an)] 25 (0, 0))) ∧ Aside0 (Below w.heap.size w w'))
     case atStart => exact ⟨(0), (by first | rfl | (simp; done) | (simp [*]; done)), H', ⟨Nat.le_refl _⟩, ⟨rT al.out⟩, ⟨rT ae.out⟩, ⟨rT ab.out⟩, ⟨bT aa.out⟩, ⟨eT HB.out⟩⟩
     case round =>
      clear H'
      try clear c1
      try clear c2
      try clear p2
      try clear p3
      try clear q3
      try clear hx3
      try clear p6
      try clear c14
      try clear a8
      try clear c15
      try clear c22
      try clear a9
      try clear c24
      try clear c25
      try clear c26
      try clear a_
      try clear p37
      try clear q37
      try clear b6
      try clear aR
      try clear aU
      try clear aX
      try clear aY
      try clear a2
      try clear a3
      try clear aV
      try clear aW
      try clear aZ
      try clear a1
      try clear a4
      try clear a5
      try clear aw
      try clear aC
      try clear aD
      try clear p373
      try clear p377
      try clear p378
      try clear q373
      try clear q377
      try clear q378
      obtain ⟨av, rfl, HA, HK2, al, ae, ab, aa, HB⟩ := hrel
      cases gk with
      | zero => exact absurd HA.out (by simp [graftwoodlaw15_ReachEnds.l1])
      | succ k2 =>
       have H := HA.out
       clear HA
       simp only [graftwoodlaw15_ReachEnds.l1] at H
       by_cases c40 : av < (ah.length : Int)
       ·rw [if_pos c40] at H
        have bm : decide (av < (ah.length : Int)) = true := decide_eq_true c40
        clear c40
        by_cases c41 : 0 ≤ av
        ·rw [if_pos c41] at H
         have bZ : decide (0 ≤ av) = true := decide_eq_true c41
         clear c41
         replace H := Option.bind_eq_some_iff.mp H
         obtain ⟨aL, bo, H⟩ := H
         replace H : (if aL = true then (graftwoodlaw15_ReachEnds.l1 k2 ah (wrap64 (av + 1)) ag ac) else (some false)) = some r := H
         have A42 := Aside0.mk bo
         clear bo
         by_cases c43 : aL = true
         ·subst c43
          have H1 : (graftwoodlaw15_ReachEnds.l1 k2 ah (wrap64 (av + 1)) ag ac) = some r := by rw [if_pos rfl] at H; exact H
          clear H
          have H := H1
          clear H1
          have H' := Aside0.mk H
          clear H
          obtain ⟨b7, b8, bM⟩ := Kd.R_slice al.out
          subst bM
          try go_wp2
          replace al := am (Kd.R_drew al.out)
          replace ae := am (Kd.R_drew ae.out)
          replace ab := am (Kd.R_drew ab.out)
          replace aa := am (blk_drew aa.out)
          replace HB := am (below_drew1 HB.out)
          have p379 : 0 ≤ (av : Int) := of_decide_eq_true (by first | (with_reducible assumption) | assumption)
          have q379 : av < (ah.length : Int) := of_decide_eq_true (by first | (with_reducible assumption) | assumption)
          obtain ⟨ad379, e379, aG⟩ := Kd.at_int (Kd.R_reads' al.out).2.2 av p379 q379
          cases e379
          replace p379 := eq_true p379
          replace q379 := eq_true q379
          refine start_ (n := 8) (S := fun w' => w'.cell? ⟨ad, 0, none⟩ = some (.slice ap ag.length aq) ∧ w'.cell? ⟨ad, 1, none⟩ = some (.slice ar ac.length an) ∧ w'.cell? (ad379.add (av).toNat) = some (.int .i64 (rd ah av))) (ds := []) (bA 8 0) (by kernel_rfl) rfl (by kernel_rfl) ⟨cT aa 0, cT aa 1, aG⟩ (fun hHeld => ?_); refine with_tabW graftwoodlaw15_ReachEnds.tab14 graftwoodlaw15_ReachEnds.bits14 (fun HT_ HW_ => ?_)
          generalize wr.drew = w45 at al ae ab aa HB aG hHeld ⊢
          refine pT 0 60 (bA 8 1) HT_.out ?_
          refine pT 2 62 (bA 8 5) HT_.out ?_
          refine pT 3 63 (bA 8 13) HT_.out ?_
          refine pT 4 64 (bA 8 29) HT_.out ?_
          refine tT 1 61 (bA 8 31) HT_.out HW_.out hHeld ?_ (hy := by rintro w' ⟨s0, s1, s2⟩; go_simp; with_reducible rfl)
          refine tT 5 65 (bA 8 63) HT_.out HW_.out hHeld ?_ (hy := by rintro w' ⟨s0, s1, s2⟩; go_simp; with_reducible rfl)
          refine oT 6 (bA 8 127) HT_.out fun K hK => ?_
          refine gS Try.func25 #[.slice ar ac.length an, .int .i64 (rd ah av)] ?_
          with_reducible refine (graftwoodref11_Has.calls k2 _ _ ac (rd ah av) true _ ?side1 ?side2 A42.out).mono ?_
          (case side1 => exact cW (Kd.R_reads' ab.out).2.2)
          (case side2 => exact (Kd.R_reads' ab.out).2.1)
          rintro e w' ⟨rfl, ⟨nd, rfl⟩⟩
          refine ⟨_, rfl, ?_⟩
          refine hK.out _ _ ⟨cT aa 0, cT aa 1, hHeld.2.2⟩ (fun hHeld => ?_)
          clear hK K
          refine mN 66 ?_
          refine pT 7 67 (bA 8 255) HT_.out ?_
          refine done_ (done_of HT_.out (by kernel_rfl)) ?_
          try go_wp2
          go_roundg k2
          case measure => have := HK1.out; have := HK2.out; omega
          case rel => exact ⟨(wrap64 (av + 1)), (by first | rfl | (simp; done) | (simp [*]; done)), H', ⟨by have := HK1.out; have := HK2.out; omega⟩, ⟨rT al.out⟩, ⟨rT ae.out⟩, ⟨rT ab.out⟩, ⟨bT aa.out⟩, ⟨eT HB.out⟩⟩
         ·replace c43 := Bool.eq_false_iff.mpr c43
          subst c43
          have H1 : (some false) = some r := by rw [if_neg (show ¬ (false = true) by decide)] at H; exact H
          clear H
          have H := H1
          clear H1
          exact absurd ((Option.some.inj H).trans hR_) (by decide)
        ·rw [if_neg c41] at H
         exact absurd H (by simp)
       ·rw [if_neg c40] at H
        have bm : decide (av < (ah.length : Int)) = false := decide_eq_false c40
        clear c40
        by_cases c48 : ((decide ((ah.length : Int) > 0)) == (decide ((ac.length : Int) > 0))) = true
        ·rw [if_pos c48] at H
         have bp : ((decide ((ah.length : Int) > 0)) == (decide ((ac.length : Int) > 0))) = true := c48
         (try (have bq : decide ((decide ((ah.length : Int) > 0)) = (decide ((ac.length : Int) > 0))) = true := by simpa using c48))
         (try (have br : ((decide ((ah.length : Int) > 0)) == (decide ((ac.length : Int) > 0))) = true := by simpa using c48))
         have b0 : (0 < ah.length ↔ 0 < ac.length) := by simpa using c48
         clear c48
         replace H := Option.bind_eq_some_iff.mp H
         obtain ⟨aM, bs, H⟩ := H
         replace H : (some aM) = some r := H
         have A49 := Aside0.mk bs
         clear bs
         obtain rfl := Option.some.inj H
         obtain ⟨b9, b_, bN⟩ := Kd.R_slice al.out
         subst bN
         have bu : wr.cell? ⟨ad, 0, none⟩ = some (.slice ap ag.length aq) := cT aa 0
         have bv : wr.cell? ⟨ad, 1, none⟩ = some (.slice ar ac.length an) := cT aa 1
         have bw := blk_frozen aa.out 0
         have bx := blk_frozen aa.out 1
         go_wp2_with (first | (go_at_call 14; (with_reducible refine (graftwoodlaw15_awake.calls k2  aM _ A49.out (by first | exact hR_ | assumption)).mono ?_); rintro e w52 ⟨rfl, hb⟩; replace al := am (rB al.out hb); replace ae := am (rB ae.out hb); replace ab := am (rB ab.out hb); replace aa := am (bB aa.out hb); replace HB := am (sT HB.out hb); (try clear hb); (try clear hb2); (try clear hk); (try clear hi)))
         go_ret
         exact ⟨by first | rfl | (simp [errW_none, errW_some] <;> rfl) | (simp [*, errW_none, errW_some] <;> rfl), eT HB.out⟩
        ·rw [if_neg c48] at H
         have bp : ((decide ((ah.length : Int) > 0)) == (decide ((ac.length : Int) > 0))) = false := by simpa using c48
         (try (have bq : decide ((decide ((ah.length : Int) > 0)) = (decide ((ac.length : Int) > 0))) = false := by simpa using c48))
         (try (have br : ((decide ((ah.length : Int) > 0)) == (decide ((ac.length : Int) > 0))) = false := by simpa using c48))
         (try (have b1 : ¬ ((decide ((ah.length : Int) > 0)) = (decide ((ac.length : Int) > 0))) := by simpa using c48))
         clear c48
         exact absurd ((Option.some.inj H).trans hR_) (by decide)
 ·rw [if_neg c4] at H
  have bb : (aE == 0) = false := beq_eq_false_iff_ne.mpr c4
  have bc : (aE != 0) = true := bne_iff_ne.mpr c4
  replace H := Option.bind_eq_some_iff.mp H
  obtain ⟨aB, bt, H⟩ := H
  replace H : (some aB) = some r := H
  have A55 := Aside0.mk bt
  clear bt
  obtain rfl := Option.some.inj H
  go_enter Try.func5, Try.ntmps5
  go_wp2_with (first | ((with_reducible refine gate_callee (f := 21) rfl ?_); refine gL (some 9) Try.func21 #[.slice A0 l0.length c0] ?_; (with_reducible refine (graftwoodlaw11_Few.calls (fun k_ => k_ < w.heap.size) _ _ l0 aj _ ?side1 A2.out).mono ?_); (case side1 => exact Kd.V_mk HC0.out (Kd.F_below (Kd.C_F k36_heap HR0.out) (by repeat (first | (with_reducible first | exact HB.out | apply pA | apply pN | apply pD) | exact HB.out)))); rintro e w56 ⟨bF, rfl, ho0, hb⟩; refine ⟨_, rfl, ?_⟩; have ai := am (Kd.V_lower (Kd.V_mono (ok' := fun k_ => True) ho0 (fun k_ hk_ => trivial)) (below_size (by repeat (first | (with_reducible first | exact HB.out | apply pA | apply pN | apply pD) | exact HB.out)))); replace HB := am (below_step (by repeat (first | (with_reducible first | exact HB.out | apply pA | apply pN | apply pD) | exact HB.out)) hb); (try clear hb); (try clear hb2); (try clear hk); (try clear hi); (try clear ho0); obtain ⟨bO, bP, bQ⟩ := Kd.V_slice ai.out; subst bQ) | ((with_reducible refine gate_callee (f := 22) rfl ?_); refine gL (some 12) Try.func22 #[.slice bO aj.length bP] ?_; (with_reducible refine (reach_Of.calls k _ _ aj ag ac aE _ ?side1 ?side2 A3.out).mono ?_); (case side1 => exact cW (Kd.V_reads' ai.out).2.2); (case side2 => exact (Kd.V_reads' ai.out).2.1); rintro e w58 ⟨bG, bH, rfl, ho0, ho1, hb⟩; refine ⟨_, rfl, ?_⟩; replace ai := am (Kd.V_mono (Kd.V_told (Kd.V_told (Kd.V_old (vT ai.out) hb) (Kd.R_base ho0)) (Kd.R_base ho1)) (fun _ h_ => h_.1)); have au := am (Kd.R_lower ho0 (below_size (by repeat (first | (with_reducible first | exact HB.out | apply pA | apply pN | apply pD) | exact HB.out)))); have ao := am (Kd.R_lower ho1 (below_size (by repeat (first | (with_reducible first | exact HB.out | apply pA | apply pN | apply pD) | exact HB.out)))); replace HB := am (below_step (by repeat (first | (with_reducible first | exact HB.out | apply pA | apply pN | apply pD) | exact HB.out)) hb); (try clear hb); (try clear hb2); (try clear hk); (try clear hi); (try clear ho0); (try clear ho1)) | ((with_reducible refine gate_dst (N := 3) rfl ?_); refine box_event ?hg (N := 3) ?hd (cs := #[.slice none 0 0, .slice none 0 0]) (t := 25) ?hr ?_; (case hd => rfl); (case hg => rfl); (case hr => first | (go_simp; done) | (go_simp; rfl)); intro ad hg w59 hbox hb; replace ai := am (Kd.V_below (Kd.V_elderB (vT ai.out) ad (Nat.le_of_eq hg.symm)) hb); replace au := am (rB au.out hb); replace ao := am (rB ao.out hb); have aa := am (hbox); have be := am ((by rw [hg]; exact (below_size (by repeat (first | (with_reducible first | exact HB.out | apply pA | apply pN | apply pD) | exact HB.out))) : w.heap.size ≤ ad)); have bf := am ((by rw [hg]; exact (below_size (by repeat (first | (with_reducible first | exact HB.out | apply pA | apply pN | apply pD) | exact HB.out))) : w.heap.size ≤ ad)); replace HB := am (below_step (by repeat (first | (with_reducible first | exact HB.out | apply pA | apply pN | apply pD) | exact HB.out)) hb); clear hb hbox hg; obtain ⟨aJ, aK, bR⟩ := Kd.R_slice au.out; subst bR; have bz : w59.cell? ⟨ad, 0, none⟩ = some (.slice none 0 0) := cT aa 0; have bC : w59.cell? ⟨ad, 1, none⟩ = some (.slice none 0 0) := cT aa 1; have bD := blk_frozen aa.out 0; have bE := blk_frozen aa.out 1; obtain ⟨a6, a7, bS⟩ := Kd.R_slice ao.out; subst bS) | ((with_reducible refine gate_callee (f := 14) rfl ?_); refine gL (some 17) Try.func14 #[] ?_; (with_reducible refine (graftwoodlaw15_awake.calls k  aB _ A55.out (by first | exact hR_ | assumption)).mono ?_); rintro e w63 ⟨rfl, hb⟩; refine ⟨_, rfl, ?_⟩; replace ai := am (Kd.V_below (by (with_reducible repeat (first | apply Kd.V_alloc | apply Kd.V_drewN | apply Kd.V_drew)); exact (Kd.V_mono (Kd.V_far (p := ⟨ad, 1, none⟩) (Kd.V_far (p := ⟨ad, 0, none⟩) (Kd.V_mono ai.out (fun k_ hk => (⟨hk, hk.2⟩ : _ ∧ k_ ≠ ad))) (fun _ hk => hk.2) (.slice aJ ag.length aK)) (fun _ hk => hk.2) (.slice a6 ac.length a7)) (fun _ h_ => h_.1))) hb); replace au := am (Kd.R_below (by (with_reducible repeat (first | apply Kd.R_alloc | apply Kd.R_drewN | apply Kd.R_drew)); exact (Kd.R_mono (Kd.R_far (p := ⟨ad, 1, none⟩) (Kd.R_far (p := ⟨ad, 0, none⟩) (Kd.R_types au.out aa.out (by decide)) (fun _ hk => hk.2) (.slice aJ ag.length aK)) (fun _ hk => hk.2) (.slice a6 ac.length a7)) (fun _ h_ => h_.1))) hb); replace ao := am (Kd.R_below (by (with_reducible repeat (first | apply Kd.R_alloc | apply Kd.R_drewN | apply Kd.R_drew)); exact (Kd.R_mono (Kd.R_far (p := ⟨ad, 1, none⟩) (Kd.R_far (p := ⟨ad, 0, none⟩) (Kd.R_types ao.out aa.out (by decide)) (fun _ hk => hk.2) (.slice aJ ag.length aK)) (fun _ hk => hk.2) (.slice a6 ac.length a7)) (fun _ h_ => h_.1))) hb); replace HB := am (below_step (by repeat (first | (with_reducible first | exact HB.out | apply pA | apply pN | apply pD | refine eU ?_ (by assumption)) | exact HB.out)) hb); replace aa := am (blk_below (g := ad) (o := .cells #[.slice aJ ag.length aK, .slice a6 ac.length a7] 25 (0, 0)) (by (with_reducible repeat (first | apply bn | apply bd | apply ba)); refine blk_put (cs := #[.slice aJ ag.length aK, .slice none 0 0]) ?_ 1 _ rfl; (with_reducible repeat (first | apply bn | apply bd | apply ba)); refine blk_put (cs := #[.slice none 0 0, .slice none 0 0]) ?_ 0 _ rfl; exact bT aa.out) hb); (try clear hb); (try clear hb2); (try clear hk); (try clear hi)))
  go_ret
  exact ⟨by first | rfl | (simp [errW_none, errW_some] <;> rfl) | (simp [*, errW_none, errW_some] <;> rfl), eT HB.out⟩

end Go.Proofs.Ytpiamehededilaa.P
