-- half the indentation
import Derived.Test.YtknmfmedklfepaaDoorSqz
import Derived.Test.YtknmfmedklfepaaDoorP0
import Derived.Test.YtknmfmedklfepaaDoorP3
import Derived.Test.YtknmfmedklfepaaDoorP20
import Derived.Test.YtknmfmedklfepaaDoorP22
import Derived.Test.YtknmfmedklfepaaDoorP25
import Derived.Test.YtknmfmedklfepaaDoorP28
import Derived.Test.YtknmfmedklfepaaDoorP29
namespace Go.Proofs.YtknmfmedklfepaaDoor.P
open Go.RowKit Go.Proofs.YtknmfmedklfepaaDoorW.PrintWords Go.Proofs.YtknmfmedklfepaaDoorW.PrintLast Go.Proofs.YtknmfmedklfepaaDoorW.PrintMore
attribute [local go_sem] max2_int min2_int max_two min_two max_three min_three max_four min_four
set_option linter.unusedVariables false
set_option linter.unusedSimpArgs false
set_option maxHeartbeats 8000000
set_option maxRecDepth 100000

/-! ### graftwoodlaw17_ListGoes: function 4 -/
mutual
def graftwoodlaw17_ListGoes.j0 : Nat → List (S33) → List (S33) → List (S33) → Bool → Option (Bool)
 | 0, _, _, _, _ => none
 | k + 1, x0, x1, x2, x43 => if x43 = true then ((graftwoodlaw17_awake.f k).bind fun bo => (some bo)) else ((list_Delta.f k x0 x1).bind fun bt348 => ((list_Apply.f k x0 bt348.1).bind fun bt352 => ((graftwoodlaw17_Few.f k bt348.1).bind fun a7 => (graftwoodlaw17_ListGoes.l0 k x0 x1 x2 bt348.1 bt348.2 bt352.1 bt352.2 a7 0))))
def graftwoodlaw17_ListGoes.l0 : Nat → List (S33) → List (S33) → List (S33) → List (S41) → Int → List (S33) → Int → List (S41) → Int → Option (Bool)
 | 0, _, _, _, _, _, _, _, _, _ => none
 | k + 1, x0, x1, x2, x7, x8, x9, x10, x11, x12 => if x12 < (x11.length : Int) then (if 0 ≤ x12 then ((some (x11.set (x12 : Int).toNat (⟨(rd_T41 x11 x12).f0, (rd_T41 x11 x12).f2, (rd_T41 x11 x12).f2⟩ : S41) : List (S41))).bind fun aU => (graftwoodlaw17_ListGoes.l0 k x0 x1 x2 x7 x8 x9 x10 (aU.set (x12 : Int).toNat (⟨(rd_T41 aU x12).f0, (rd_T41 aU x12).f1, (rd_T41 x11 x12).f1⟩ : S41)) (wrap64 (x12 + 1)))) else (none)) else ((list_Apply.f k x1 x11).bind fun bt363 => (if (x7.length : Int) > 20 then ((graftwoodlaw17_awake.f k).bind fun bp => (some bp)) else ((list_Above.f k x0 x1).bind fun bt368 => ((list_Above.f k x1 x0).bind fun bt370 => ((list_Above.f k x1 x2).bind fun bt372 => ((list_Above.f k x0 x2).bind fun bt374 => ((list_Above.f k x0 x0).bind fun bt376 => (if x8 = 0 then (if x10 = 0 then (if bt363.2 = 0 then (if bt368.2 = 0 then (if bt370.2 = 0 then (if bt372.2 = 0 then (if bt374.2 = 0 then (graftwoodlaw17_ListGoes.j2 k x0 x1 x9 bt363.1 bt368.1 bt370.1 bt372.1 bt374.1 bt376.1 (bt376.2 != 0)) else (graftwoodlaw17_ListGoes.j2 k x0 x1 x9 bt363.1 bt368.1 bt370.1 bt372.1 bt374.1 bt376.1 true)) else (graftwoodlaw17_ListGoes.j2 k x0 x1 x9 bt363.1 bt368.1 bt370.1 bt372.1 bt374.1 bt376.1 true)) else (graftwoodlaw17_ListGoes.j2 k x0 x1 x9 bt363.1 bt368.1 bt370.1 bt372.1 bt374.1 bt376.1 true)) else (graftwoodlaw17_ListGoes.j2 k x0 x1 x9 bt363.1 bt368.1 bt370.1 bt372.1 bt374.1 bt376.1 true)) else (graftwoodlaw17_ListGoes.j2 k x0 x1 x9 bt363.1 bt368.1 bt370.1 bt372.1 bt374.1 bt376.1 true)) else (graftwoodlaw17_ListGoes.j2 k x0 x1 x9 bt363.1 bt368.1 bt370.1 bt372.1 bt374.1 bt376.1 true)) else (graftwoodlaw17_ListGoes.j2 k x0 x1 x9 bt363.1 bt368.1 bt370.1 bt372.1 bt374.1 bt376.1 true)))))))))
def graftwoodlaw17_ListGoes.j2 : Nat → List (S33) → List (S33) → List (S33) → List (S33) → Bool → Bool → Bool → Bool → Bool → Bool → Option (Bool)
 | 0, _, _, _, _, _, _, _, _, _, _ => none
 | k + 1, x0, x1, x9, x13, x15, x17, x19, x21, x23, cZ => if cZ = true then (some false) else ((graftwoodref05_Same.f k x9 x1).bind fun bq => (if bq = true then ((graftwoodref05_Same.f k x13 x0).bind fun a9 => (if a9 = true then (if x23 = true then (if x15 = true then (if x19 = true then (if x21 = true then (if x17 = true then ((graftwoodref05_Same.f k x0 x1).bind fun aC => (if aC = true then ((graftwoodlaw17_awake.f k).bind fun aw => (some aw)) else (some false))) else ((graftwoodlaw17_awake.f k).bind fun aD => (some aD))) else (some false)) else (if x17 = true then ((graftwoodref05_Same.f k x0 x1).bind fun aF => (if aF = true then ((graftwoodlaw17_awake.f k).bind fun az => (some az)) else (some false))) else ((graftwoodlaw17_awake.f k).bind fun aG => (some aG)))) else ((graftwoodlaw17_awake.f k).bind fun aK => (some aK))) else (some false)) else (some false))) else (some false)))
end
def graftwoodlaw17_ListGoes.f (k : Nat) (l0 : List (S33)) (l1 : List (S33)) (l2 : List (S33)) : Option (Bool) := (graftwoodlaw05_Few.f k l0).bind fun aa => ((graftwoodlaw05_Few.f k l1).bind fun ab => ((graftwoodlaw05_Few.f k l2).bind fun ak => ((list_Check.f k aa).bind fun aJ => (if aJ = 0 then ((list_Check.f k ab).bind fun aH => (if aH = 0 then ((list_Check.f k ak).bind fun aM => (graftwoodlaw17_ListGoes.j0 k aa ab ak (aM != 0))) else (graftwoodlaw17_ListGoes.j0 k aa ab ak true))) else (graftwoodlaw17_ListGoes.j0 k aa ab ak true)))))
theorem graftwoodlaw17_ListGoes.mono_l : ∀ k, (∀ y0 y1 y2 y3, LeO (graftwoodlaw17_ListGoes.j0 k y0 y1 y2 y3) (graftwoodlaw17_ListGoes.j0 (k + 1) y0 y1 y2 y3)) ∧ (∀ y0 y1 y2 y3 y4 y5 y6 y7 y8, LeO (graftwoodlaw17_ListGoes.l0 k y0 y1 y2 y3 y4 y5 y6 y7 y8) (graftwoodlaw17_ListGoes.l0 (k + 1) y0 y1 y2 y3 y4 y5 y6 y7 y8)) ∧ (∀ y0 y1 y2 y3 y4 y5 y6 y7 y8 y9, LeO (graftwoodlaw17_ListGoes.j2 k y0 y1 y2 y3 y4 y5 y6 y7 y8 y9) (graftwoodlaw17_ListGoes.j2 (k + 1) y0 y1 y2 y3 y4 y5 y6 y7 y8 y9))
 | 0 => ⟨fun _ _ _ _ r h => by simp [graftwoodlaw17_ListGoes.j0] at h, fun _ _ _ _ _ _ _ _ _ r h => by simp [graftwoodlaw17_ListGoes.l0] at h, fun _ _ _ _ _ _ _ _ _ _ r h => by simp [graftwoodlaw17_ListGoes.j2] at h⟩
 | k + 1 => by
  obtain ⟨ih0, ih1, ih2⟩ := graftwoodlaw17_ListGoes.mono_l k
  refine ⟨?_, ?_, ?_⟩
  ·intro y0 y1 y2 y3
   unfold graftwoodlaw17_ListGoes.j0
   repeat' first | (with_reducible first | apply ih0 | apply ih1 | apply ih2 | apply graftwoodlaw05_Few.mono | apply graftwoodlaw17_Few.mono | apply graftwoodlaw17_awake.mono | apply graftwoodref05_Same.mono | apply list_Above.mono | apply list_Apply.mono | apply list_Check.mono | apply list_Delta.mono | apply LeO.refl | apply LeO.none | apply LeO.ite | refine LeO.bind ?_ (fun _ => ?_)) | apply ih0 | apply ih1 | apply ih2 | apply graftwoodlaw05_Few.mono | apply graftwoodlaw17_Few.mono | apply graftwoodlaw17_awake.mono | apply graftwoodref05_Same.mono | apply list_Above.mono | apply list_Apply.mono | apply list_Check.mono | apply list_Delta.mono | exact LeO.none _ | refine LeO.ite ?_ ?_ | refine LeO.bind ?_ (fun _ => ?_)
  ·intro y0 y1 y2 y3 y4 y5 y6 y7 y8
   unfold graftwoodlaw17_ListGoes.l0
   repeat' first | (with_reducible first | apply ih0 | apply ih1 | apply ih2 | apply graftwoodlaw05_Few.mono | apply graftwoodlaw17_Few.mono | apply graftwoodlaw17_awake.mono | apply graftwoodref05_Same.mono | apply list_Above.mono | apply list_Apply.mono | apply list_Check.mono | apply list_Delta.mono | apply LeO.refl | apply LeO.none | apply LeO.ite | refine LeO.bind ?_ (fun _ => ?_)) | apply ih0 | apply ih1 | apply ih2 | apply graftwoodlaw05_Few.mono | apply graftwoodlaw17_Few.mono | apply graftwoodlaw17_awake.mono | apply graftwoodref05_Same.mono | apply list_Above.mono | apply list_Apply.mono | apply list_Check.mono | apply list_Delta.mono | exact LeO.none _ | refine LeO.ite ?_ ?_ | refine LeO.bind ?_ (fun _ => ?_)
  ·intro y0 y1 y2 y3 y4 y5 y6 y7 y8 y9
   unfold graftwoodlaw17_ListGoes.j2
   repeat' first | (with_reducible first | apply ih0 | apply ih1 | apply ih2 | apply graftwoodlaw05_Few.mono | apply graftwoodlaw17_Few.mono | apply graftwoodlaw17_awake.mono | apply graftwoodref05_Same.mono | apply list_Above.mono | apply list_Apply.mono | apply list_Check.mono | apply list_Delta.mono | apply LeO.refl | apply LeO.none | apply LeO.ite | refine LeO.bind ?_ (fun _ => ?_)) | apply ih0 | apply ih1 | apply ih2 | apply graftwoodlaw05_Few.mono | apply graftwoodlaw17_Few.mono | apply graftwoodlaw17_awake.mono | apply graftwoodref05_Same.mono | apply list_Above.mono | apply list_Apply.mono | apply list_Check.mono | apply list_Delta.mono | exact LeO.none _ | refine LeO.ite ?_ ?_ | refine LeO.bind ?_ (fun _ => ?_)
theorem graftwoodlaw17_ListGoes.mono : ∀ a0 a1 a2 k, LeO (graftwoodlaw17_ListGoes.f k a0 a1 a2) (graftwoodlaw17_ListGoes.f (k + 1) a0 a1 a2) := by
 intro a0 a1 a2 k
 obtain ⟨ih0, ih1, ih2⟩ := graftwoodlaw17_ListGoes.mono_l k
 unfold graftwoodlaw17_ListGoes.f
 repeat' first | (with_reducible first | apply ih0 | apply ih1 | apply ih2 | apply graftwoodlaw05_Few.mono | apply graftwoodlaw17_Few.mono | apply graftwoodlaw17_awake.mono | apply graftwoodref05_Same.mono | apply list_Above.mono | apply list_Apply.mono | apply list_Check.mono | apply list_Delta.mono | apply LeO.refl | apply LeO.none | apply LeO.ite | refine LeO.bind ?_ (fun _ => ?_)) | apply ih0 | apply ih1 | apply ih2 | apply graftwoodlaw05_Few.mono | apply graftwoodlaw17_Few.mono | apply graftwoodlaw17_awake.mono | apply graftwoodref05_Same.mono | apply list_Above.mono | apply list_Apply.mono | apply list_Check.mono | apply list_Delta.mono | exact LeO.none _ | refine LeO.ite ?_ ?_ | refine LeO.bind ?_ (fun _ => ?_)
def graftwoodlaw17_ListGoes.T10 : Bool × List (List Nat × List Nat) := (true, [([], []), ([], []), ([], []), ([], []), ([], []), ([], []), ([4, 5], [4, 5]), ([6], [6]), ([7], [7]), ([], []), ([], []), ([9, 10], [9, 10]), ([11], [11]), ([12], [12]), ([0, 1, 0, 1, 4, 5, 6, 7, 8, 13], [0, 1]), ([14, 0, 1, 4, 5, 6, 7, 8, 13], [14]), ([15, 8, 0, 1, 4, 5, 6, 7, 8, 13], [8, 15]), ([2, 3, 0, 1, 2, 3, 4, 5, 6, 7, 8, 9, 10, 11, 12, 13, 14, 15, 16], [2, 3]), ([17, 0, 1, 2, 3, 4, 5, 6, 7, 8, 9, 10, 11, 12, 13, 14, 15, 16], [17]), ([18, 13, 16, 0, 1, 2, 3, 4, 5, 6, 7, 8, 9, 10, 11, 12, 13, 14, 15, 16], [13, 18])])
def graftwoodlaw17_ListGoes.B10 : List Nat := [0, 0, 0, 0, 0, 0, 48, 112, 240, 0, 0, 1536, 3584, 7680, 16371, 32755, 65523, 131071, 262143, 524287]
theorem graftwoodlaw17_ListGoes.tab10 : rtab .any (opsOf Tryd.f4 10) = graftwoodlaw17_ListGoes.T10 := by kernel_rfl
theorem graftwoodlaw17_ListGoes.bits10 : waitsOk graftwoodlaw17_ListGoes.T10.2 graftwoodlaw17_ListGoes.B10 = true := by kernel_rfl
theorem graftwoodlaw17_ListGoes.calls (k : Nat) (A0 : Option Addr) (c0 : Nat) (l0 : List (S33)) (A1 : Option Addr) (c1 : Nat) (l1 : List (S33)) (A2 : Option Addr) (c2 : Nat) (l2 : List (S33)) (r : Bool) (w : World) (hr0 : Kd.C k33 w A0 l0.length l0) (hc0 : l0.length ≤ c0) (hr1 : Kd.C k33 w A1 l1.length l1) (hc1 : l1.length ≤ c1) (hr2 : Kd.C k33 w A2 l2.length l2) (hc2 : l2.length ≤ c2) (h : graftwoodlaw17_ListGoes.f k l0 l1 l2 = some r) :
  Calls Tryd.prog 4 #[.slice A0 l0.length c0, .slice A1 l1.length c1, .slice A2 l2.length c2] w fun e w' => e = .returned (.bool r) ∧ Below w.heap.size w w' := by
 have HR0 := Aside0.mk hr0
 have HC0 := Aside0.mk hc0
 clear hr0 hc0
 have HR1 := Aside0.mk hr1
 have HC1 := Aside0.mk hc1
 clear hr1 hc1
 have HR2 := Aside0.mk hr2
 have HC2 := Aside0.mk hc2
 clear hr2 hc2
 have HB := am (Below.refl w.heap.size w)
 unfold graftwoodlaw17_ListGoes.f at h; have H := h; clear h
 replace H := bnd H; obtain ⟨aa, A4, H⟩ := H
 replace H := bnd H; obtain ⟨ab, A5, H⟩ := H
 replace H := bnd H; obtain ⟨ak, A6, H⟩ := H
 have HC7 := Aside0.mk H
 clear H
 go_enter Tryd.func4, Tryd.ntmps4
 go_upto_region 2 with (first | ((with_reducible refine gtC 5 ?_); refine xCl 26 Tryd.func5 (graftwoodlaw05_Few.calls k _ _ l0 aa _ (cW (HR0.out)) HC0.out A4.out) ?_; rintro e w8 ⟨bX, rfl, ho0, hb⟩; refine ⟨_, rfl, ?_⟩; have ap := am (Kd.R_lower ho0 (below_size (eTx HB.out))); replace HB := am (sTx HB.out hb)) | ((with_reducible refine gtC 5 ?_); refine xCl 28 Tryd.func5 (graftwoodlaw05_Few.calls k _ _ l1 ab _ (cW (Kd.C_below HR1.out HB.out)) HC1.out A5.out) ?_; rintro e w9 ⟨bZ, rfl, ho0, hb⟩; refine ⟨_, rfl, ?_⟩; have ar := am (Kd.R_lower (Kd.R_new' ho0 (Kd.R_lt (rT ap.out))) (below_size (eTx HB.out))); replace ap := am (Kd.R_elder' (rT ap.out) (Kd.R_base ho0) hb); replace HB := am (sTx HB.out hb)) | ((with_reducible refine gtC 5 ?_); refine xCl 30 Tryd.func5 (graftwoodlaw05_Few.calls k _ _ l2 ak _ (cW (Kd.C_below HR2.out HB.out)) HC2.out A6.out) ?_; rintro e w10 ⟨bi, rfl, ho0, hb⟩; refine ⟨_, rfl, ?_⟩; have ax := am (Kd.R_lower (Kd.R_new' (Kd.R_new' ho0 (Kd.R_lt (rT ap.out))) (Kd.R_lt (rT ar.out))) (below_size (eTx HB.out))); replace ap := am (Kd.R_elder' (rT ap.out) (Kd.R_base ho0) hb); replace ar := am (Kd.R_elder' (rT ar.out) (Kd.R_base ho0) hb); replace HB := am (sTx HB.out hb)))
 (try simp only [Act.put, List.setIfInBounds_toArray, List.set_cons_zero, List.set_cons_succ])
 go_cut [43] (fun v43 wc => ∃ (kq : Nat) (bj : Bool), v43 = .bool bj ∧ Aside0 (graftwoodlaw17_ListGoes.j0 kq aa ab ak bj = some r) ∧ Aside0 (kq ≤ k) ∧ Aside0 (Kd.R k33 33 wc w.heap.size (fun k_ => some k_ ≠ (bZ : Value).ownBlock ∧ some k_ ≠ (bi : Value).ownBlock) bX aa) ∧ Aside0 (Kd.R k33 33 wc w.heap.size (fun k_ => some k_ ≠ (bX : Value).ownBlock ∧ some k_ ≠ (bi : Value).ownBlock) bZ ab) ∧ Aside0 (Kd.R k33 33 wc w.heap.size (fun k_ => some k_ ≠ (bX : Value).ownBlock ∧ some k_ ≠ (bZ : Value).ownBlock) bi ak) ∧ Aside0 (Below w.heap.size w wc))
 case first =>
  have H := HC7.out
  clear HC7
  replace H := bnd H; obtain ⟨aJ, A11, H⟩ := H
  replace H := ifP H; rcases H with ⟨c12, H⟩ | ⟨c12, H⟩
  ·have aW := beq_iff_eq.mpr c12
   have bk := bne_eq_false_iff_eq.mpr c12
   clear c12
   (first | rw [aW] | (simp only [i64_w, i32_w]; rw [aW]) | skip)
   replace H := bnd H; obtain ⟨aH, A13, H⟩ := H
   replace H := ifP H; rcases H with ⟨c14, H⟩ | ⟨c14, H⟩
   ·have bl := beq_iff_eq.mpr c14
    have bm := bne_eq_false_iff_eq.mpr c14
    clear c14
    replace H := bnd H; obtain ⟨aM, A15, H⟩ := H
    have H' := Aside0.mk H
    clear H
    obtain ⟨c3, c9, c_⟩ := Kd.R_slice ap.out
    subst c_
    go_wp2_with (first | ((with_reducible refine gtC 11 ?_); refine xCb 32 Tryd.func11 (list_Check.calls k _ _ aa aJ _ (cW (Kd.R_reads' ap.out).2.2) ((Kd.R_reads' ap.out).2.1) A11.out) fun w17 hb => ?_; replace ap := am (rB ap.out hb); replace ar := am (rB ar.out hb); replace ax := am (rB ax.out hb); replace HB := am (sTx HB.out hb); obtain ⟨d4, d5, da⟩ := Kd.R_slice ar.out; subst da) | (go_at_call 11; (with_reducible refine (list_Check.calls k _ _ ab aH _ (cW (Kd.R_reads' ar.out).2.2) ((Kd.R_reads' ar.out).2.1) A13.out).mono ?_); rintro e w19 ⟨rfl, hb⟩; replace ap := am (rB ap.out hb); replace ar := am (rB ar.out hb); replace ax := am (rB ax.out hb); replace HB := am (sTx HB.out hb); obtain ⟨d6, d7, db⟩ := Kd.R_slice ax.out; subst db) | (go_at_call 11; (with_reducible refine (list_Check.calls k _ _ ak aM _ (cW (Kd.R_reads' ax.out).2.2) ((Kd.R_reads' ax.out).2.1) A15.out).mono ?_); rintro e w21 ⟨rfl, hb⟩; replace ap := am (rB ap.out hb); replace ar := am (rB ar.out hb); replace ax := am (rB ax.out hb); replace HB := am (sTx HB.out hb)))
    go_meet
    case rel => exact ⟨_, ((aM != 0)), rfG, H', ⟨rfO⟩, ⟨by (with_reducible repeat (first | apply Kd.R_alloc | apply Kd.R_drewN | apply Kd.R_drew)); exact Kd.R_mono ap.out (fun _ hk => ⟨hk.1.2, hk.2⟩)⟩, ⟨by (with_reducible repeat (first | apply Kd.R_alloc | apply Kd.R_drewN | apply Kd.R_drew)); exact Kd.R_mono ar.out (fun _ hk => ⟨hk.1.2, hk.2⟩)⟩, ⟨by (with_reducible repeat (first | apply Kd.R_alloc | apply Kd.R_drewN | apply Kd.R_drew)); exact Kd.R_mono ax.out (fun _ hk => ⟨hk.1.2, hk.2⟩)⟩, ⟨eTx HB.out⟩⟩
   ·have bl := beq_eq_false_iff_ne.mpr c14
    have bm := bne_iff_ne.mpr c14
    have H' := Aside0.mk H
    clear H
    obtain ⟨dc, dd, de⟩ := Kd.R_slice ap.out
    subst de
    go_wp2_with (first | ((with_reducible refine gtC 11 ?_); refine xCb 32 Tryd.func11 (list_Check.calls k _ _ aa aJ _ (cW (Kd.R_reads' ap.out).2.2) ((Kd.R_reads' ap.out).2.1) A11.out) fun w23 hb => ?_; replace ap := am (rB ap.out hb); replace ar := am (rB ar.out hb); replace ax := am (rB ax.out hb); replace HB := am (sTx HB.out hb); obtain ⟨d8, d9, df⟩ := Kd.R_slice ar.out; subst df) | (go_at_call 11; (with_reducible refine (list_Check.calls k _ _ ab aH _ (cW (Kd.R_reads' ar.out).2.2) ((Kd.R_reads' ar.out).2.1) A13.out).mono ?_); rintro e w25 ⟨rfl, hb⟩; replace ap := am (rB ap.out hb); replace ar := am (rB ar.out hb); replace ax := am (rB ax.out hb); replace HB := am (sTx HB.out hb)))
    go_meet
    case rel => exact ⟨_, (true), rfG, H', ⟨rfO⟩, ⟨by (with_reducible repeat (first | apply Kd.R_alloc | apply Kd.R_drewN | apply Kd.R_drew)); exact Kd.R_mono ap.out (fun _ hk => ⟨hk.1.2, hk.2⟩)⟩, ⟨by (with_reducible repeat (first | apply Kd.R_alloc | apply Kd.R_drewN | apply Kd.R_drew)); exact Kd.R_mono ar.out (fun _ hk => ⟨hk.1.2, hk.2⟩)⟩, ⟨by (with_reducible repeat (first | apply Kd.R_alloc | apply Kd.R_drewN | apply Kd.R_drew)); exact Kd.R_mono ax.out (fun _ hk => ⟨hk.1.2, hk.2⟩)⟩, ⟨eTx HB.out⟩⟩
  ·have aW := beq_eq_false_iff_ne.mpr c12
   have bk := bne_iff_ne.mpr c12
   (first | rw [aW] | (simp only [i64_w, i32_w]; rw [aW]) | skip)
   have H' := Aside0.mk H
   clear H
   obtain ⟨dg, dh, di⟩ := Kd.R_slice ap.out
   subst di
   go_wp2_with (first | ((with_reducible refine gtC 11 ?_); refine xCb 32 Tryd.func11 (list_Check.calls k _ _ aa aJ _ (cW (Kd.R_reads' ap.out).2.2) ((Kd.R_reads' ap.out).2.1) A11.out) fun w27 hb => ?_; replace ap := am (rB ap.out hb); replace ar := am (rB ar.out hb); replace ax := am (rB ax.out hb); replace HB := am (sTx HB.out hb)))
   go_meet
   case rel => exact ⟨_, (true), rfG, H', ⟨rfO⟩, ⟨by (with_reducible repeat (first | apply Kd.R_alloc | apply Kd.R_drewN | apply Kd.R_drew)); exact Kd.R_mono ap.out (fun _ hk => ⟨hk.1.2, hk.2⟩)⟩, ⟨by (with_reducible repeat (first | apply Kd.R_alloc | apply Kd.R_drewN | apply Kd.R_drew)); exact Kd.R_mono ar.out (fun _ hk => ⟨hk.1.2, hk.2⟩)⟩, ⟨by (with_reducible repeat (first | apply Kd.R_alloc | apply Kd.R_drewN | apply Kd.R_drew)); exact Kd.R_mono ax.out (fun _ hk => ⟨hk.1.2, hk.2⟩)⟩, ⟨eTx HB.out⟩⟩
 case rest =>
  clear HC7
  obtain ⟨kq, bj, rfl, HA, HJ6, ad, ae, aq, HB⟩ := hcut
  cases kq with
  | zero => exact absurd HA.out (by simp [graftwoodlaw17_ListGoes.j0])
  | succ kj6 =>
   have H := HA.out
   clear HA
   simp only [graftwoodlaw17_ListGoes.j0] at H
   replace H := ifB H; rcases H with ⟨rfl, H⟩ | ⟨rfl, H⟩
   ·replace H := bnd H; obtain ⟨bo, A29, H⟩ := H
    obtain rfl := smI H
    go_wp2_with (first | ((with_reducible refine gtC 8 ?_); refine xCb 44 Tryd.func8 (graftwoodlaw17_awake.calls kj6  bo _ A29.out) fun w30 hb => ?_; replace ad := am (rB ad.out hb); replace ae := am (rB ae.out hb); replace aq := am (rB aq.out hb); replace HB := am (sTx HB.out hb)))
    go_ret
    exact ⟨rfF, eTx HB.out⟩
   ·replace H := bnd H; obtain ⟨⟨aE, aL⟩, A31, H⟩ := H
    (try dsimp only at H)
    replace H := bnd H; obtain ⟨⟨af, aN⟩, A32, H⟩ := H
    (try dsimp only at H)
    replace H := bnd H; obtain ⟨a7, A33, H⟩ := H
    have H' := Aside0.mk H
    clear H
    obtain ⟨aQ, aR, dj⟩ := Kd.R_slice ad.out
    subst dj
    obtain ⟨aA, aB, dk⟩ := Kd.R_slice ae.out
    subst dk
    go_wp2_with (first | ((with_reducible refine gtC 7 ?_); refine xCl 48 Tryd.func7 (list_Delta.calls kj6 _ _ aa _ _ ab aE aL _ (cW (Kd.R_reads' ad.out).2.2) ((Kd.R_reads' ad.out).2.1) (cW (Kd.R_reads' ae.out).2.2) ((Kd.R_reads' ae.out).2.1) A31.out) ?_; rintro e w36 ⟨d_, rfl, ho0, hb⟩; refine ⟨_, rfl, ?_⟩; replace ad := am (rB ad.out hb); replace ae := am (rB ae.out hb); replace aq := am (rB aq.out hb); have aO := am (Kd.R_lower ho0 (below_size (eTx HB.out))); replace HB := am (sTx HB.out hb); obtain ⟨bw, bx, dl⟩ := Kd.R_slice aO.out; subst dl) | ((with_reducible refine gtC 12 ?_); refine xCl 54 Tryd.func12 (list_Apply.calls kj6 _ _ aa _ _ aE af aN _ (cW (Kd.R_reads' ad.out).2.2) ((Kd.R_reads' ad.out).2.1) (cW (Kd.R_reads' aO.out).2.2) ((Kd.R_reads' aO.out).2.1) A32.out) ?_; rintro e w38 ⟨be, rfl, ho0, hb⟩; refine ⟨_, rfl, ?_⟩; replace aO := am (rB aO.out hb); have br := am (Kd.R_lower (Kd.R_new' (Kd.R_new' (Kd.R_new' ho0 (Kd.R_lt (rT ad.out))) (Kd.R_lt (rT ae.out))) (Kd.R_lt (rT aq.out))) (below_size (eTx HB.out))); replace ad := am (Kd.R_elder' (rT ad.out) (Kd.R_base ho0) hb); replace ae := am (Kd.R_elder' (rT ae.out) (Kd.R_base ho0) hb); replace aq := am (Kd.R_elder' (rT aq.out) (Kd.R_base ho0) hb); replace HB := am (sTx HB.out hb)) | ((with_reducible refine gtC 13 ?_); refine xCl 58 Tryd.func13 (graftwoodlaw17_Few.calls kj6 _ _ aE a7 _ (cW (Kd.R_reads' aO.out).2.2) ((Kd.R_reads' aO.out).2.1) A33.out) ?_; rintro e w39 ⟨cb, rfl, ho0, hb⟩; refine ⟨_, rfl, ?_⟩; replace ad := am (rB ad.out hb); replace ae := am (rB ae.out hb); replace aq := am (rB aq.out hb); replace br := am (rB br.out hb); have cc := am (Kd.R_lower (Kd.R_new' ho0 (Kd.R_lt (rT aO.out))) (below_size (eTx HB.out))); replace aO := am (Kd.R_elder' (rT aO.out) (Kd.R_base ho0) hb); replace HB := am (sTx HB.out hb)))
    go_loopg [12] kj6 (fun kq v12 w' => ∃ (ag : List (S41)) (ac : Int), v12 = .int .i64 ac ∧ Aside0 (graftwoodlaw17_ListGoes.l0 kq aa ab ak aE aL af aN ag ac = some r) ∧ Aside0 (kq ≤ kj6) ∧ Aside0 (Kd.R k33 33 w' w.heap.size (fun k_ => some k_ ≠ ((.slice aA ab.length aB) : Value).ownBlock ∧ some k_ ≠ (bi : Value).ownBlock ∧ some k_ ≠ (be : Value).ownBlock) (.slice aQ aa.length aR) aa) ∧ Aside0 (Kd.R k33 33 w' w.heap.size (fun k_ => some k_ ≠ ((.slice aQ aa.length aR) : Value).ownBlock ∧ some k_ ≠ (bi : Value).ownBlock ∧ some k_ ≠ (be : Value).ownBlock) (.slice aA ab.length aB) ab) ∧ Aside0 (Kd.R k33 33 w' w.heap.size (fun k_ => some k_ ≠ ((.slice aQ aa.length aR) : Value).ownBlock ∧ some k_ ≠ ((.slice aA ab.length aB) : Value).ownBlock ∧ some k_ ≠ (be : Value).ownBlock) bi ak) ∧ Aside0 (Kd.R k41 41 w' w.heap.size (fun k_ => some k_ ≠ (cb : Value).ownBlock) (.slice bw aE.length bx) aE) ∧ Aside0 (Kd.R k33 33 w' w.heap.size (fun k_ => some k_ ≠ ((.slice aQ aa.length aR) : Value).ownBlock ∧ some k_ ≠ ((.slice aA ab.length aB) : Value).ownBlock ∧ some k_ ≠ (bi : Value).ownBlock) be af) ∧ Aside0 (Kd.R k41 41 w' w.heap.size (fun k_ => some k_ ≠ ((.slice bw aE.length bx) : Value).ownBlock) cb ag) ∧ Aside0 (Below w.heap.size w w'))
    case atStart => exact ⟨(a7), (0), rfG, H', ⟨Nat.le_refl _⟩, ⟨by (with_reducible repeat (first | apply Kd.R_alloc | apply Kd.R_drewN | apply Kd.R_drew)); exact Kd.R_mono ad.out (fun _ hk => ⟨hk.1.1, ⟨hk.1.2, hk.2⟩⟩)⟩, ⟨by (with_reducible repeat (first | apply Kd.R_alloc | apply Kd.R_drewN | apply Kd.R_drew)); exact Kd.R_mono ae.out (fun _ hk => ⟨hk.1.1, ⟨hk.1.2, hk.2⟩⟩)⟩, ⟨by (with_reducible repeat (first | apply Kd.R_alloc | apply Kd.R_drewN | apply Kd.R_drew)); exact Kd.R_mono aq.out (fun _ hk => ⟨hk.1.1, ⟨hk.1.2, hk.2⟩⟩)⟩, ⟨by (with_reducible repeat (first | apply Kd.R_alloc | apply Kd.R_drewN | apply Kd.R_drew)); exact Kd.R_mono aO.out (fun _ hk => hk.2)⟩, ⟨by (with_reducible repeat (first | apply Kd.R_alloc | apply Kd.R_drewN | apply Kd.R_drew)); exact Kd.R_mono br.out (fun _ hk => ⟨hk.1.1.2, ⟨hk.1.2, hk.2⟩⟩)⟩, ⟨by (with_reducible repeat (first | apply Kd.R_alloc | apply Kd.R_drewN | apply Kd.R_drew)); exact Kd.R_mono cc.out (fun _ hk => hk.2)⟩, ⟨eTx HB.out⟩⟩
    case round =>
     as_aux_lemma =>
     clear H'
     obtain ⟨ag, ac, rfl, HA, HK2, ad, ae, aq, aI, ah, al, HB⟩ := hrel
     cases gk with
     | zero => exact absurd HA.out (by simp [graftwoodlaw17_ListGoes.l0])
     | succ k2 =>
      have H := HA.out
      clear HA
      simp only [graftwoodlaw17_ListGoes.l0] at H
      replace H := ifP H; rcases H with ⟨c40, H⟩ | ⟨c40, H⟩
      ·have bC := decide_eq_true c40
       clear c40
       replace H := ifN H; obtain ⟨c41, H⟩ := H
       have cd := decide_eq_true c41
       clear c41
       obtain ⟨aU, bf⟩ : ∃ y_ : List (S41), y_ = (ag.set (ac : Int).toNat (⟨(rd_T41 ag ac).f0, (rd_T41 ag ac).f2, (rd_T41 ag ac).f2⟩ : S41)) := ⟨_, rfl⟩
       replace H : (graftwoodlaw17_ListGoes.l0 k2 aa ab ak aE aL af aN (aU.set (ac : Int).toNat (⟨(rd_T41 aU ac).f0, (rd_T41 aU ac).f1, (rd_T41 ag ac).f1⟩ : S41)) (wrap64 (ac + 1))) = some r := by first | (rw [bf]; with_reducible exact H) | (have H2_ := (Option.bind_some _ _).symm.trans H; rw [bf]; with_reducible exact H2_) | (have H2_ := (Option.bind_some _ _).symm.trans H; with_reducible exact H2_) | with_reducible exact H | (rw [bf]; exact H) | exact H
       have Ny361 := Aside0.mk bf
       clear bf
       obtain ⟨ce, bg⟩ : ∃ y_ : List (S41), y_ = (aU.set (ac : Int).toNat (⟨(rd_T41 aU ac).f0, (rd_T41 aU ac).f1, (rd_T41 ag ac).f1⟩ : S41)) := ⟨_, rfl⟩
       replace H : (graftwoodlaw17_ListGoes.l0 k2 aa ab ak aE aL af aN ce (wrap64 (ac + 1))) = some r := by first | (rw [bg]; with_reducible exact H) | (have H2_ := (Option.bind_some _ _).symm.trans H; rw [bg]; with_reducible exact H2_) | (have H2_ := (Option.bind_some _ _).symm.trans H; with_reducible exact H2_) | with_reducible exact H | (rw [bg]; exact H) | exact H
       have Ny362 := Aside0.mk bg
       clear bg
       have H' := Aside0.mk H
       clear H
       obtain ⟨ea, eb, dm⟩ := Kd.R_slice al.out
       subst dm
       try go_wp2
       replace ad := am (Kd.R_drew ad.out)
       replace ae := am (Kd.R_drew ae.out)
       replace aq := am (Kd.R_drew aq.out)
       replace aI := am (Kd.R_drew aI.out)
       replace ah := am (Kd.R_drew ah.out)
       replace al := am (Kd.R_drew al.out)
       replace HB := am (below_drew1 HB.out)
       have p359 : 0 ≤ (ac : Int) := of_decide_eq_true rfA
       have q359 : ac < (ag.length : Int) := of_decide_eq_true rfA
       obtain ⟨ad359, e359, aX, aY, aZ⟩ := at_T41 (Kd.R_reads' al.out).2.2 ac p359 q359
       cases e359
       replace p359 := eq_true p359
       replace q359 := eq_true q359
       have p360 : 0 ≤ (ac : Int) := of_decide_eq_true rfA
       have q360 : ac < (ag.length : Int) := of_decide_eq_true rfA
       obtain ⟨ad360, e360, a3, a4, a5⟩ := at_T41 (Kd.R_reads' al.out).2.2 ac p360 q360
       obtain rfl : ad359 = ad360 := (by injection e360)
       replace p360 := eq_true p360
       replace q360 := eq_true q360
       have p42 : 0 ≤ (ac : Int) := of_decide_eq_true rfA
       have q42 : (ac : Int) < ((ag.length : Int) : Int) := of_decide_eq_true rfA
       obtain ⟨go42, ec, cf, cg, gl42, cl42, HG42⟩ := Kd.R_form al.out (by omega)
       (first | cases cf | (injection cf with ea_ en_ ec_; (first | subst ea_ | (injection ea_ with ea_; subst ea_)); subst ec_; clear en_))
       have GB42 := Aside0.mk cg
       have GG42 := Aside0.mk HG42
       clear cg gl42 HG42
       (first | simp only [add_plain] at aX | skip)
       (first | simp only [add_plain] at aY | skip)
       (first | simp only [add_plain] at aZ | skip)
       (first | simp only [add_plain] at a3 | skip)
       (first | simp only [add_plain] at a4 | skip)
       (first | simp only [add_plain] at a5 | skip)
       obtain ⟨ce42, hcl42, hM42, hcc42, hfr42⟩ := Kd.R_elem al.out z41 (ac : Int) p42 q42
       obtain rfl := k41_openM hM42
       have bs : World.cell? _ ⟨go42, (ac : Int).toNat * 3, none⟩ = some (.string ((rd_T41 ag ac).f0)) := hcc42 0 _ rfl
       have bt : World.cell? _ ⟨go42, (ac : Int).toNat * 3 + 1, none⟩ = some (.string ((rd_T41 ag ac).f1)) := hcc42 1 _ rfl
       have bu : World.cell? _ ⟨go42, (ac : Int).toNat * 3 + 2, none⟩ = some (.string ((rd_T41 ag ac).f2)) := hcc42 2 _ rfl
       have b0 : World.frozen? _ ⟨go42, (ac : Int).toNat * 3, none⟩ = false := hfr42 0
       have b1 : World.frozen? _ ⟨go42, (ac : Int).toNat * 3 + 1, none⟩ = false := hfr42 1
       have b2 : World.frozen? _ ⟨go42, (ac : Int).toNat * 3 + 2, none⟩ = false := hfr42 2
       clear hcl42 hcc42 hfr42 hM42
       replace p42 := eq_true p42
       replace q42 := eq_true q42
       obtain ⟨ce46, hcl46, hM46, hcc46, hfr46⟩ := Kd.R_elem al.out z41 (ac : Int) (of_decide_eq_true rfA) (by have h_ : (ac : Int) < ((ag.length : Int) : Int) := of_decide_eq_true rfA; first | exact h_ | (have e_ := (Kd.R_reads' al.out).1; omega) | simpa using h_)
       obtain rfl := k41_openM hM46
       have HP46 := (Kd.R_seg al.out (ac : Int) (of_decide_eq_true rfA) (by have h_ : (ac : Int) < ((ag.length : Int) : Int) := of_decide_eq_true rfA; first | exact h_ | (have e_ := (Kd.R_reads' al.out).1; omega) | simpa using h_) (seg := [.string ((rd_T41 ag ac).f2)]) (j := 1) hcl46 hcc46 (show 2 ≤ 3 from by decide) (x' := (⟨(rd_T41 ag ac).f0, (rd_T41 ag ac).f2, (rd_T41 ag ac).f2⟩ : S41)) (k41_mkM _ _ _ (⟨(rd_T41 ag ac).f0, (rd_T41 ag ac).f2, (rd_T41 ag ac).f2⟩ : S41) ) (fun _ hk => hk)).1
       rw [← Ny361.out] at HP46
       have HQ46 := Aside0.mk HP46
       clear hcl46 hcc46 hfr46 hM46 HP46
       have p43 : 0 ≤ (ac : Int) := of_decide_eq_true rfA
       have q43 : (ac : Int) < ((ag.length : Int) : Int) := of_decide_eq_true rfA
       replace p43 := eq_true p43
       replace q43 := eq_true q43
       obtain ⟨ce47, hcl47, hM47, hcc47, hfr47⟩ := Kd.R_elem HQ46.out z41 (ac : Int) (of_decide_eq_true rfA) (by have h_ : (ac : Int) < ((ag.length : Int) : Int) := of_decide_eq_true rfA; first | exact h_ | (have e_ := (Kd.R_reads' al.out).1; omega) | simpa using h_)
       obtain rfl := k41_openM hM47
       have HP47 := (Kd.R_seg HQ46.out (ac : Int) (of_decide_eq_true rfA) (by have h_ : (ac : Int) < ((ag.length : Int) : Int) := of_decide_eq_true rfA; first | exact h_ | (have e_ := (Kd.R_reads' al.out).1; omega) | simpa using h_) (seg := [.string ((rd_T41 ag ac).f1)]) (j := 2) hcl47 hcc47 (show 3 ≤ 3 from by decide) (x' := (⟨(rd_T41 aU ac).f0, (rd_T41 aU ac).f1, (rd_T41 ag ac).f1⟩ : S41)) (k41_mkM _ _ _ (⟨(rd_T41 aU ac).f0, (rd_T41 aU ac).f1, (rd_T41 ag ac).f1⟩ : S41) ) (fun _ hk => hk)).1
       rw [← Ny362.out] at HP47
       have HQ47 := Aside0.mk HP47
       clear hcl47 hcc47 hfr47 hM47 HP47
       refine start_ (n := 20) (S := fun w' => w'.cell? ⟨go42, ((ac).toNat * 3), none⟩ = some (.string ((rd_T41 ag ac).f0)) ∧ w'.cell? ⟨go42, ((ac).toNat * 3) + 1, none⟩ = some (.string ((rd_T41 ag ac).f1)) ∧ w'.cell? ⟨go42, ((ac).toNat * 3) + 2, none⟩ = some (.string ((rd_T41 ag ac).f2)) ∧ w'.cell? ⟨go42, ((ac).toNat * 3), none⟩ = some (.string ((rd_T41 ag ac).f0)) ∧ w'.cell? ⟨go42, ((ac).toNat * 3) + 1, none⟩ = some (.string ((rd_T41 ag ac).f1)) ∧ w'.cell? ⟨go42, ((ac).toNat * 3) + 2, none⟩ = some (.string ((rd_T41 ag ac).f2))) (ds := [16, 19]) (bA 20 0) rfK rfl rfK ⟨aX, aY, aZ, a3, a4, a5⟩ (fun hHeld => ?_); refine with_tabW graftwoodlaw17_ListGoes.tab10 graftwoodlaw17_ListGoes.bits10 (fun HT_ HW_ => ?_)
       generalize wr.drew = w45 at ad ae aq aI ah al HB GG42 HQ46 HQ47 b0 b1 b2 aX aY aZ a3 a4 a5 bs bt bu hHeld ⊢
       refine pT 0 65 (bA 20 1) HT_.out ?_
       refine pT 1 66 (bA 20 3) HT_.out ?_
       refine pT 2 67 (bA 20 7) HT_.out ?_
       refine pT 3 68 (bA 20 15) HT_.out ?_
       refine pT 4 69 (bA 20 31) HT_.out ?_
       refine pT 5 70 (bA 20 63) HT_.out ?_
       refine pT 6 71 (bA 20 127) HT_.out ?_
       refine pT 7 72 (bA 20 255) HT_.out ?_
       refine pT 9 74 (bA 20 767) HT_.out ?_
       refine pT 10 75 (bA 20 1791) HT_.out ?_
       refine pT 11 76 (bA 20 3839) HT_.out ?_
       refine pT 12 77 (bA 20 7935) HT_.out ?_
       refine tT 8 73 (bA 20 8191) HT_.out HW_.out hHeld ?_ (hy := by rintro w' ⟨s0, s1, s2, s3, s4, s5⟩; go_simp; with_reducible rfl)
       refine tT 13 78 (bA 20 16383) HT_.out HW_.out hHeld ?_ (hy := by rintro w' ⟨s0, s1, s2, s3, s4, s5⟩; go_simp; with_reducible rfl)
       refine pT 14 79 (bA 20 32767) HT_.out ?_
       refine pT 15 80 (bA 20 65535) HT_.out ?_
       refine last_ (i := 16) (N := none) (bA 20 131071) rfl rfl (one_of HT_.out rfK) (by decide) (fun K hK => ?_)
       refine skip_ (w1 := ?_) (by rfl) rfl ?_ ?_
       rotate_left
       ·go_simp
        rfl
       refine hK.out _ _ ?_
       clear hK K
       refine pT 17 81 (bA 20 262143) HT_.out ?_
       refine pT 18 82 (bA 20 524287) HT_.out ?_
       refine last_ (i := 19) (N := none) (bA 20 1048575) rfl rfl (one_of HT_.out rfK) (by decide) (fun K hK => ?_)
       refine skip_ (w1 := ?_) (by rfl) rfl ?_ ?_
       rotate_left
       ·go_simp
        rfl
       refine hK.out _ _ ?_
       clear hK K
       refine done_ (done_of HT_.out rfK) ?_
       try go_wp2
       go_roundg k2
       case measure => have := HJ6.out; have := HK2.out; omega
       case rel => exact ⟨(ce), (wrap64 (ac + 1)), rfG, H', ⟨by have := HJ6.out; have := HK2.out; omega⟩, ⟨by (with_reducible repeat (first | apply Kd.R_alloc | apply Kd.R_drewN | apply Kd.R_drew)); exact Kd.R_mono (Kd.R_far (p := ⟨go42, (ac : Int).toNat * 3 + 2, none⟩) (Kd.R_far (p := ⟨go42, (ac : Int).toNat * 3 + 1, none⟩) (Kd.R_types ad.out GG42.out (by decide)) (fun _ hk => hk.2) (.string ((rd_T41 ag ac).f2))) (fun _ hk => hk.2) (.string ((rd_T41 ag ac).f1))) (fun _ hk => ⟨hk.1.1, ⟨hk.1.2.1, hk.1.2.2⟩⟩)⟩, ⟨by (with_reducible repeat (first | apply Kd.R_alloc | apply Kd.R_drewN | apply Kd.R_drew)); exact Kd.R_mono (Kd.R_far (p := ⟨go42, (ac : Int).toNat * 3 + 2, none⟩) (Kd.R_far (p := ⟨go42, (ac : Int).toNat * 3 + 1, none⟩) (Kd.R_types ae.out GG42.out (by decide)) (fun _ hk => hk.2) (.string ((rd_T41 ag ac).f2))) (fun _ hk => hk.2) (.string ((rd_T41 ag ac).f1))) (fun _ hk => ⟨hk.1.1, ⟨hk.1.2.1, hk.1.2.2⟩⟩)⟩, ⟨by (with_reducible repeat (first | apply Kd.R_alloc | apply Kd.R_drewN | apply Kd.R_drew)); exact Kd.R_mono (Kd.R_far (p := ⟨go42, (ac : Int).toNat * 3 + 2, none⟩) (Kd.R_far (p := ⟨go42, (ac : Int).toNat * 3 + 1, none⟩) (Kd.R_types aq.out GG42.out (by decide)) (fun _ hk => hk.2) (.string ((rd_T41 ag ac).f2))) (fun _ hk => hk.2) (.string ((rd_T41 ag ac).f1))) (fun _ hk => ⟨hk.1.1, ⟨hk.1.2.1, hk.1.2.2⟩⟩)⟩, ⟨by (with_reducible repeat (first | apply Kd.R_alloc | apply Kd.R_drewN | apply Kd.R_drew)); exact Kd.R_mono (Kd.R_far (p := ⟨go42, (ac : Int).toNat * 3 + 2, none⟩) (Kd.R_far (p := ⟨go42, (ac : Int).toNat * 3 + 1, none⟩) (Kd.R_mono aI.out (fun k_ hk => (⟨hk, fun e_ => hk (by rw [e_]; rfl)⟩ : _ ∧ k_ ≠ go42))) (fun _ hk => hk.2) (.string ((rd_T41 ag ac).f2))) (fun _ hk => hk.2) (.string ((rd_T41 ag ac).f1))) (fun _ hk => hk.1)⟩, ⟨by (with_reducible repeat (first | apply Kd.R_alloc | apply Kd.R_drewN | apply Kd.R_drew)); exact Kd.R_mono (Kd.R_far (p := ⟨go42, (ac : Int).toNat * 3 + 2, none⟩) (Kd.R_far (p := ⟨go42, (ac : Int).toNat * 3 + 1, none⟩) (Kd.R_types ah.out GG42.out (by decide)) (fun _ hk => hk.2) (.string ((rd_T41 ag ac).f2))) (fun _ hk => hk.2) (.string ((rd_T41 ag ac).f1))) (fun _ hk => ⟨hk.1.1, ⟨hk.1.2.1, hk.1.2.2⟩⟩)⟩, ⟨HQ47.out⟩, ⟨eTx HB.out⟩⟩
      ·have bC := decide_eq_false c40
       clear c40
       replace H := bnd H; obtain ⟨⟨ai, aV⟩, A48, H⟩ := H
       (try dsimp only at H)
       replace H := ifP H; rcases H with ⟨c49, H⟩ | ⟨c49, H⟩
       ·have bD : decide (20 < (aE.length : Int)) = true := decide_eq_true c49
        have bE : decide (20 < aE.length) = true := decide_eq_true (by omega)
        clear c49
        replace H := bnd H; obtain ⟨bp, A50, H⟩ := H
        obtain rfl := smI H
        obtain ⟨dn, dp, dq⟩ := Kd.R_slice al.out
        subst dq
        go_wp2_with (first | ((with_reducible refine gtC 12 ?_); refine xCl 86 Tryd.func12 (list_Apply.calls k2 _ _ ab _ _ ag ai aV _ (cW (Kd.R_reads' ae.out).2.2) ((Kd.R_reads' ae.out).2.1) (cW (Kd.R_reads' al.out).2.2) ((Kd.R_reads' al.out).2.1) A48.out) ?_; rintro e w52 ⟨bv, rfl, ho0, hb⟩; refine ⟨_, rfl, ?_⟩; replace aI := am (rB aI.out hb); replace al := am (rB al.out hb); have av := am (Kd.R_lower (Kd.R_new' (Kd.R_new' (Kd.R_new' (Kd.R_new' ho0 (Kd.R_lt (rT ad.out))) (Kd.R_lt (rT ae.out))) (Kd.R_lt (rT aq.out))) (Kd.R_lt (rT ah.out))) (below_size (eTx HB.out))); replace ad := am (Kd.R_elder' (rT ad.out) (Kd.R_base ho0) hb); replace ae := am (Kd.R_elder' (rT ae.out) (Kd.R_base ho0) hb); replace aq := am (Kd.R_elder' (rT aq.out) (Kd.R_base ho0) hb); replace ah := am (Kd.R_elder' (rT ah.out) (Kd.R_base ho0) hb); replace HB := am (sTx HB.out hb)) | ((with_reducible refine gtC 8 ?_); refine xCb 92 Tryd.func8 (graftwoodlaw17_awake.calls k2  bp _ A50.out) fun w53 hb => ?_; replace ad := am (rB ad.out hb); replace ae := am (rB ae.out hb); replace aq := am (rB aq.out hb); replace aI := am (rB aI.out hb); replace ah := am (rB ah.out hb); replace al := am (rB al.out hb); replace av := am (rB av.out hb); replace HB := am (sTx HB.out hb)))
        go_ret
        exact ⟨rfF, eTx HB.out⟩
       ·have bD : decide (20 < (aE.length : Int)) = false := decide_eq_false c49
        have bE : decide (20 < aE.length) = false := decide_eq_false (by omega)
        clear c49
        replace H := bnd H; obtain ⟨⟨ao, a8⟩, A54, H⟩ := H
        (try dsimp only at H)
        replace H := bnd H; obtain ⟨⟨an, a_⟩, A55, H⟩ := H
        (try dsimp only at H)
        replace H := bnd H; obtain ⟨⟨au, bc⟩, A56, H⟩ := H
        (try dsimp only at H)
        replace H := bnd H; obtain ⟨⟨ay, bh⟩, A57, H⟩ := H
        (try dsimp only at H)
        replace H := bnd H; obtain ⟨⟨aP, b3⟩, A58, H⟩ := H
        (try dsimp only at H)
        have b4 := Aside0.mk H
        clear H
        obtain ⟨dr, dt, du⟩ := Kd.R_slice al.out
        subst du
        go_upto_region 19 with (first | ((with_reducible refine gtC 12 ?_); refine xCl 86 Tryd.func12 (list_Apply.calls k2 _ _ ab _ _ ag ai aV _ (cW (Kd.R_reads' ae.out).2.2) ((Kd.R_reads' ae.out).2.1) (cW (Kd.R_reads' al.out).2.2) ((Kd.R_reads' al.out).2.1) A48.out) ?_; rintro e w61 ⟨bv, rfl, ho0, hb⟩; refine ⟨_, rfl, ?_⟩; replace aI := am (rB aI.out hb); replace al := am (rB al.out hb); have av := am (Kd.R_lower (Kd.R_new' (Kd.R_new' (Kd.R_new' (Kd.R_new' ho0 (Kd.R_lt (rT ad.out))) (Kd.R_lt (rT ae.out))) (Kd.R_lt (rT aq.out))) (Kd.R_lt (rT ah.out))) (below_size (eTx HB.out))); replace ad := am (Kd.R_elder' (rT ad.out) (Kd.R_base ho0) hb); replace ae := am (Kd.R_elder' (rT ae.out) (Kd.R_base ho0) hb); replace aq := am (Kd.R_elder' (rT aq.out) (Kd.R_base ho0) hb); replace ah := am (Kd.R_elder' (rT ah.out) (Kd.R_base ho0) hb); replace HB := am (sTx HB.out hb)) | ((with_reducible refine gtC 14 ?_); refine xCb 96 Tryd.func14 (list_Above.calls k2 _ _ aa _ _ ab ao a8 _ (cW (Kd.R_reads' ad.out).2.2) ((Kd.R_reads' ad.out).2.1) (cW (Kd.R_reads' ae.out).2.2) ((Kd.R_reads' ae.out).2.1) A54.out) fun w62 hb => ?_; replace ad := am (rB ad.out hb); replace ae := am (rB ae.out hb); replace aq := am (rB aq.out hb); replace aI := am (rB aI.out hb); replace ah := am (rB ah.out hb); replace al := am (rB al.out hb); replace av := am (rB av.out hb); replace HB := am (sTx HB.out hb)) | ((with_reducible refine gtC 14 ?_); refine xCb 102 Tryd.func14 (list_Above.calls k2 _ _ ab _ _ aa an a_ _ (cW (Kd.R_reads' ae.out).2.2) ((Kd.R_reads' ae.out).2.1) (cW (Kd.R_reads' ad.out).2.2) ((Kd.R_reads' ad.out).2.1) A55.out) fun w63 hb => ?_; replace ad := am (rB ad.out hb); replace ae := am (rB ae.out hb); replace aq := am (rB aq.out hb); replace aI := am (rB aI.out hb); replace ah := am (rB ah.out hb); replace al := am (rB al.out hb); replace av := am (rB av.out hb); replace HB := am (sTx HB.out hb); obtain ⟨co, cp, dv⟩ := Kd.R_slice aq.out; subst dv) | ((with_reducible refine gtC 14 ?_); refine xCb 108 Tryd.func14 (list_Above.calls k2 _ _ ab _ _ ak au bc _ (cW (Kd.R_reads' ae.out).2.2) ((Kd.R_reads' ae.out).2.1) (cW (Kd.R_reads' aq.out).2.2) ((Kd.R_reads' aq.out).2.1) A56.out) fun w65 hb => ?_; replace ad := am (rB ad.out hb); replace ae := am (rB ae.out hb); replace aq := am (rB aq.out hb); replace aI := am (rB aI.out hb); replace ah := am (rB ah.out hb); replace al := am (rB al.out hb); replace av := am (rB av.out hb); replace HB := am (sTx HB.out hb)) | ((with_reducible refine gtC 14 ?_); refine xCb 114 Tryd.func14 (list_Above.calls k2 _ _ aa _ _ ak ay bh _ (cW (Kd.R_reads' ad.out).2.2) ((Kd.R_reads' ad.out).2.1) (cW (Kd.R_reads' aq.out).2.2) ((Kd.R_reads' aq.out).2.1) A57.out) fun w66 hb => ?_; replace ad := am (rB ad.out hb); replace ae := am (rB ae.out hb); replace aq := am (rB aq.out hb); replace aI := am (rB aI.out hb); replace ah := am (rB ah.out hb); replace al := am (rB al.out hb); replace av := am (rB av.out hb); replace HB := am (sTx HB.out hb)) | ((with_reducible refine gtC 14 ?_); refine xCb 120 Tryd.func14 (list_Above.calls k2 _ _ aa _ _ aa aP b3 _ (cW (Kd.R_reads' ad.out).2.2) ((Kd.R_reads' ad.out).2.1) (cW (Kd.R_reads' ad.out).2.2) ((Kd.R_reads' ad.out).2.1) A58.out) fun w67 hb => ?_; replace ad := am (rB ad.out hb); replace ae := am (rB ae.out hb); replace aq := am (rB aq.out hb); replace aI := am (rB aI.out hb); replace ah := am (rB ah.out hb); replace al := am (rB al.out hb); replace av := am (rB av.out hb); replace HB := am (sTx HB.out hb)))
        (try simp only [Act.put, List.setIfInBounds_toArray, List.set_cons_zero, List.set_cons_succ])
        go_cut [152] (fun dw wc => ∃ (kq : Nat) (a6 : Bool), dw = .bool a6 ∧ Aside0 (graftwoodlaw17_ListGoes.j2 kq aa ab af ai ao an au ay aP a6 = some r) ∧ Aside0 (kq ≤ k2) ∧ Aside0 (Kd.R k33 33 wc w.heap.size (fun k_ => some k_ ≠ ((.slice aA ab.length aB) : Value).ownBlock ∧ some k_ ≠ (be : Value).ownBlock ∧ some k_ ≠ (bv : Value).ownBlock) (.slice aQ aa.length aR) aa) ∧ Aside0 (Kd.R k33 33 wc w.heap.size (fun k_ => some k_ ≠ ((.slice aQ aa.length aR) : Value).ownBlock ∧ some k_ ≠ (be : Value).ownBlock ∧ some k_ ≠ (bv : Value).ownBlock) (.slice aA ab.length aB) ab) ∧ Aside0 (Kd.R k33 33 wc w.heap.size (fun k_ => some k_ ≠ ((.slice aQ aa.length aR) : Value).ownBlock ∧ some k_ ≠ ((.slice aA ab.length aB) : Value).ownBlock ∧ some k_ ≠ (bv : Value).ownBlock) be af) ∧ Aside0 (Kd.R k33 33 wc w.heap.size (fun k_ => some k_ ≠ ((.slice aQ aa.length aR) : Value).ownBlock ∧ some k_ ≠ ((.slice aA ab.length aB) : Value).ownBlock ∧ some k_ ≠ (be : Value).ownBlock) bv ai) ∧ Aside0 (Below w.heap.size w wc))
        case first =>
         have H := b4.out
         clear b4
         replace H := ifP H; rcases H with ⟨c68, H⟩ | ⟨c68, H⟩
         ·have bb := beq_iff_eq.mpr c68
          have bF := bne_eq_false_iff_eq.mpr c68
          clear c68
          (first | rw [bb] | (simp only [i64_w, i32_w]; rw [bb]) | skip)
          replace H := ifP H; rcases H with ⟨c69, H⟩ | ⟨c69, H⟩
          ·have bG := beq_iff_eq.mpr c69
           have bH := bne_eq_false_iff_eq.mpr c69
           clear c69
           replace H := ifP H; rcases H with ⟨c70, H⟩ | ⟨c70, H⟩
           ·have bI := beq_iff_eq.mpr c70
            have bJ := bne_eq_false_iff_eq.mpr c70
            clear c70
            replace H := ifP H; rcases H with ⟨c71, H⟩ | ⟨c71, H⟩
            ·have bK := beq_iff_eq.mpr c71
             have bL := bne_eq_false_iff_eq.mpr c71
             clear c71
             replace H := ifP H; rcases H with ⟨c72, H⟩ | ⟨c72, H⟩
             ·have bM := beq_iff_eq.mpr c72
              have bN := bne_eq_false_iff_eq.mpr c72
              clear c72
              replace H := ifP H; rcases H with ⟨c73, H⟩ | ⟨c73, H⟩
              ·have bO := beq_iff_eq.mpr c73
               have bP := bne_eq_false_iff_eq.mpr c73
               clear c73
               replace H := ifP H; rcases H with ⟨c74, H⟩ | ⟨c74, H⟩
               ·have bQ := beq_iff_eq.mpr c74
                have bR := bne_eq_false_iff_eq.mpr c74
                clear c74
                have H' := Aside0.mk H
                clear H
                go_wp2
                go_meet
                case rel => exact ⟨_, ((b3 != 0)), rfG, H', ⟨by have := HJ6.out; have := HK2.out; first | omega | exact Nat.le_refl _⟩, ⟨by (with_reducible repeat (first | apply Kd.R_alloc | apply Kd.R_drewN | apply Kd.R_drew)); exact Kd.R_mono ad.out (fun _ hk => ⟨hk.1.1, ⟨hk.1.2.2, hk.2⟩⟩)⟩, ⟨by (with_reducible repeat (first | apply Kd.R_alloc | apply Kd.R_drewN | apply Kd.R_drew)); exact Kd.R_mono ae.out (fun _ hk => ⟨hk.1.1, ⟨hk.1.2.2, hk.2⟩⟩)⟩, ⟨by (with_reducible repeat (first | apply Kd.R_alloc | apply Kd.R_drewN | apply Kd.R_drew)); exact Kd.R_mono ah.out (fun _ hk => ⟨hk.1.1, ⟨hk.1.2.1, hk.2⟩⟩)⟩, ⟨by (with_reducible repeat (first | apply Kd.R_alloc | apply Kd.R_drewN | apply Kd.R_drew)); exact Kd.R_mono av.out (fun _ hk => ⟨hk.1.1.1.2, ⟨hk.1.1.2, hk.2⟩⟩)⟩, ⟨eTx HB.out⟩⟩
               ·have bQ := beq_eq_false_iff_ne.mpr c74
                have bR := bne_iff_ne.mpr c74
                have H' := Aside0.mk H
                clear H
                go_wp2
                go_meet
                case rel => exact ⟨_, (true), rfG, H', ⟨by have := HJ6.out; have := HK2.out; first | omega | exact Nat.le_refl _⟩, ⟨by (with_reducible repeat (first | apply Kd.R_alloc | apply Kd.R_drewN | apply Kd.R_drew)); exact Kd.R_mono ad.out (fun _ hk => ⟨hk.1.1, ⟨hk.1.2.2, hk.2⟩⟩)⟩, ⟨by (with_reducible repeat (first | apply Kd.R_alloc | apply Kd.R_drewN | apply Kd.R_drew)); exact Kd.R_mono ae.out (fun _ hk => ⟨hk.1.1, ⟨hk.1.2.2, hk.2⟩⟩)⟩, ⟨by (with_reducible repeat (first | apply Kd.R_alloc | apply Kd.R_drewN | apply Kd.R_drew)); exact Kd.R_mono ah.out (fun _ hk => ⟨hk.1.1, ⟨hk.1.2.1, hk.2⟩⟩)⟩, ⟨by (with_reducible repeat (first | apply Kd.R_alloc | apply Kd.R_drewN | apply Kd.R_drew)); exact Kd.R_mono av.out (fun _ hk => ⟨hk.1.1.1.2, ⟨hk.1.1.2, hk.2⟩⟩)⟩, ⟨eTx HB.out⟩⟩
              ·have bO := beq_eq_false_iff_ne.mpr c73
               have bP := bne_iff_ne.mpr c73
               have H' := Aside0.mk H
               clear H
               go_wp2
               go_meet
               case rel => exact ⟨_, (true), rfG, H', ⟨by have := HJ6.out; have := HK2.out; first | omega | exact Nat.le_refl _⟩, ⟨by (with_reducible repeat (first | apply Kd.R_alloc | apply Kd.R_drewN | apply Kd.R_drew)); exact Kd.R_mono ad.out (fun _ hk => ⟨hk.1.1, ⟨hk.1.2.2, hk.2⟩⟩)⟩, ⟨by (with_reducible repeat (first | apply Kd.R_alloc | apply Kd.R_drewN | apply Kd.R_drew)); exact Kd.R_mono ae.out (fun _ hk => ⟨hk.1.1, ⟨hk.1.2.2, hk.2⟩⟩)⟩, ⟨by (with_reducible repeat (first | apply Kd.R_alloc | apply Kd.R_drewN | apply Kd.R_drew)); exact Kd.R_mono ah.out (fun _ hk => ⟨hk.1.1, ⟨hk.1.2.1, hk.2⟩⟩)⟩, ⟨by (with_reducible repeat (first | apply Kd.R_alloc | apply Kd.R_drewN | apply Kd.R_drew)); exact Kd.R_mono av.out (fun _ hk => ⟨hk.1.1.1.2, ⟨hk.1.1.2, hk.2⟩⟩)⟩, ⟨eTx HB.out⟩⟩
             ·have bM := beq_eq_false_iff_ne.mpr c72
              have bN := bne_iff_ne.mpr c72
              have H' := Aside0.mk H
              clear H
              go_wp2
              go_meet
              case rel => exact ⟨_, (true), rfG, H', ⟨by have := HJ6.out; have := HK2.out; first | omega | exact Nat.le_refl _⟩, ⟨by (with_reducible repeat (first | apply Kd.R_alloc | apply Kd.R_drewN | apply Kd.R_drew)); exact Kd.R_mono ad.out (fun _ hk => ⟨hk.1.1, ⟨hk.1.2.2, hk.2⟩⟩)⟩, ⟨by (with_reducible repeat (first | apply Kd.R_alloc | apply Kd.R_drewN | apply Kd.R_drew)); exact Kd.R_mono ae.out (fun _ hk => ⟨hk.1.1, ⟨hk.1.2.2, hk.2⟩⟩)⟩, ⟨by (with_reducible repeat (first | apply Kd.R_alloc | apply Kd.R_drewN | apply Kd.R_drew)); exact Kd.R_mono ah.out (fun _ hk => ⟨hk.1.1, ⟨hk.1.2.1, hk.2⟩⟩)⟩, ⟨by (with_reducible repeat (first | apply Kd.R_alloc | apply Kd.R_drewN | apply Kd.R_drew)); exact Kd.R_mono av.out (fun _ hk => ⟨hk.1.1.1.2, ⟨hk.1.1.2, hk.2⟩⟩)⟩, ⟨eTx HB.out⟩⟩
            ·have bK := beq_eq_false_iff_ne.mpr c71
             have bL := bne_iff_ne.mpr c71
             have H' := Aside0.mk H
             clear H
             go_wp2
             go_meet
             case rel => exact ⟨_, (true), rfG, H', ⟨by have := HJ6.out; have := HK2.out; first | omega | exact Nat.le_refl _⟩, ⟨by (with_reducible repeat (first | apply Kd.R_alloc | apply Kd.R_drewN | apply Kd.R_drew)); exact Kd.R_mono ad.out (fun _ hk => ⟨hk.1.1, ⟨hk.1.2.2, hk.2⟩⟩)⟩, ⟨by (with_reducible repeat (first | apply Kd.R_alloc | apply Kd.R_drewN | apply Kd.R_drew)); exact Kd.R_mono ae.out (fun _ hk => ⟨hk.1.1, ⟨hk.1.2.2, hk.2⟩⟩)⟩, ⟨by (with_reducible repeat (first | apply Kd.R_alloc | apply Kd.R_drewN | apply Kd.R_drew)); exact Kd.R_mono ah.out (fun _ hk => ⟨hk.1.1, ⟨hk.1.2.1, hk.2⟩⟩)⟩, ⟨by (with_reducible repeat (first | apply Kd.R_alloc | apply Kd.R_drewN | apply Kd.R_drew)); exact Kd.R_mono av.out (fun _ hk => ⟨hk.1.1.1.2, ⟨hk.1.1.2, hk.2⟩⟩)⟩, ⟨eTx HB.out⟩⟩
           ·have bI := beq_eq_false_iff_ne.mpr c70
            have bJ := bne_iff_ne.mpr c70
            have H' := Aside0.mk H
            clear H
            go_wp2
            go_meet
            case rel => exact ⟨_, (true), rfG, H', ⟨by have := HJ6.out; have := HK2.out; first | omega | exact Nat.le_refl _⟩, ⟨by (with_reducible repeat (first | apply Kd.R_alloc | apply Kd.R_drewN | apply Kd.R_drew)); exact Kd.R_mono ad.out (fun _ hk => ⟨hk.1.1, ⟨hk.1.2.2, hk.2⟩⟩)⟩, ⟨by (with_reducible repeat (first | apply Kd.R_alloc | apply Kd.R_drewN | apply Kd.R_drew)); exact Kd.R_mono ae.out (fun _ hk => ⟨hk.1.1, ⟨hk.1.2.2, hk.2⟩⟩)⟩, ⟨by (with_reducible repeat (first | apply Kd.R_alloc | apply Kd.R_drewN | apply Kd.R_drew)); exact Kd.R_mono ah.out (fun _ hk => ⟨hk.1.1, ⟨hk.1.2.1, hk.2⟩⟩)⟩, ⟨by (with_reducible repeat (first | apply Kd.R_alloc | apply Kd.R_drewN | apply Kd.R_drew)); exact Kd.R_mono av.out (fun _ hk => ⟨hk.1.1.1.2, ⟨hk.1.1.2, hk.2⟩⟩)⟩, ⟨eTx HB.out⟩⟩
          ·have bG := beq_eq_false_iff_ne.mpr c69
           have bH := bne_iff_ne.mpr c69
           have H' := Aside0.mk H
           clear H
           go_wp2
           go_meet
           case rel => exact ⟨_, (true), rfG, H', ⟨by have := HJ6.out; have := HK2.out; first | omega | exact Nat.le_refl _⟩, ⟨by (with_reducible repeat (first | apply Kd.R_alloc | apply Kd.R_drewN | apply Kd.R_drew)); exact Kd.R_mono ad.out (fun _ hk => ⟨hk.1.1, ⟨hk.1.2.2, hk.2⟩⟩)⟩, ⟨by (with_reducible repeat (first | apply Kd.R_alloc | apply Kd.R_drewN | apply Kd.R_drew)); exact Kd.R_mono ae.out (fun _ hk => ⟨hk.1.1, ⟨hk.1.2.2, hk.2⟩⟩)⟩, ⟨by (with_reducible repeat (first | apply Kd.R_alloc | apply Kd.R_drewN | apply Kd.R_drew)); exact Kd.R_mono ah.out (fun _ hk => ⟨hk.1.1, ⟨hk.1.2.1, hk.2⟩⟩)⟩, ⟨by (with_reducible repeat (first | apply Kd.R_alloc | apply Kd.R_drewN | apply Kd.R_drew)); exact Kd.R_mono av.out (fun _ hk => ⟨hk.1.1.1.2, ⟨hk.1.1.2, hk.2⟩⟩)⟩, ⟨eTx HB.out⟩⟩
         ·have bb := beq_eq_false_iff_ne.mpr c68
          have bF := bne_iff_ne.mpr c68
          (first | rw [bb] | (simp only [i64_w, i32_w]; rw [bb]) | skip)
          have H' := Aside0.mk H
          clear H
          go_wp2
          go_meet
          case rel => exact ⟨_, (true), rfG, H', ⟨by have := HJ6.out; have := HK2.out; first | omega | exact Nat.le_refl _⟩, ⟨by (with_reducible repeat (first | apply Kd.R_alloc | apply Kd.R_drewN | apply Kd.R_drew)); exact Kd.R_mono ad.out (fun _ hk => ⟨hk.1.1, ⟨hk.1.2.2, hk.2⟩⟩)⟩, ⟨by (with_reducible repeat (first | apply Kd.R_alloc | apply Kd.R_drewN | apply Kd.R_drew)); exact Kd.R_mono ae.out (fun _ hk => ⟨hk.1.1, ⟨hk.1.2.2, hk.2⟩⟩)⟩, ⟨by (with_reducible repeat (first | apply Kd.R_alloc | apply Kd.R_drewN | apply Kd.R_drew)); exact Kd.R_mono ah.out (fun _ hk => ⟨hk.1.1, ⟨hk.1.2.1, hk.2⟩⟩)⟩, ⟨by (with_reducible repeat (first | apply Kd.R_alloc | apply Kd.R_drewN | apply Kd.R_drew)); exact Kd.R_mono av.out (fun _ hk => ⟨hk.1.1.1.2, ⟨hk.1.1.2, hk.2⟩⟩)⟩, ⟨eTx HB.out⟩⟩
        case rest =>
         clear b4
         obtain ⟨kq, a6, rfl, HA, eh, ad, ae, ah, aj, HB⟩ := hcut
         cases kq with
         | zero => exact absurd HA.out (by simp [graftwoodlaw17_ListGoes.j2])
         | succ kj58 =>
          have H := HA.out
          clear HA
          simp only [graftwoodlaw17_ListGoes.j2] at H
          replace H := ifB H; rcases H with ⟨rfl, H⟩ | ⟨rfl, H⟩
          ·obtain rfl := smI H
           go_wp2
           go_ret
           exact ⟨rfF, eTx HB.out⟩
          ·replace H := bnd H; obtain ⟨bq, A76, H⟩ := H
           replace H := ifB H; rcases H with ⟨rfl, H⟩ | ⟨rfl, H⟩
           ·replace H := bnd H; obtain ⟨a9, A78, H⟩ := H
            replace H := ifB H; rcases H with ⟨rfl, H⟩ | ⟨rfl, H⟩
            ·replace H := ifB H; rcases H with ⟨rfl, H⟩ | ⟨rfl, H⟩
             ·replace H := ifB H; rcases H with ⟨rfl, H⟩ | ⟨rfl, H⟩
              ·replace H := ifB H; rcases H with ⟨rfl, H⟩ | ⟨rfl, H⟩
               ·replace H := ifB H; rcases H with ⟨rfl, H⟩ | ⟨rfl, H⟩
                ·replace H := ifB H; rcases H with ⟨rfl, H⟩ | ⟨rfl, H⟩
                 ·replace H := bnd H; obtain ⟨aC, A85, H⟩ := H
                  replace H := ifB H; rcases H with ⟨rfl, H⟩ | ⟨rfl, H⟩
                  ·replace H := bnd H; obtain ⟨aw, A87, H⟩ := H
                   obtain rfl := smI H
                   obtain ⟨dx, dy, dz⟩ := Kd.R_slice ah.out
                   subst dz
                   go_wp2_with (first | ((with_reducible refine gtC 15 ?_); refine xCz 155 Tryd.func15 (graftwoodref05_Same.calls kj58 _ _ af _ _ ab true _ (cW (Kd.R_reads' ah.out).2.2) ((Kd.R_reads' ah.out).2.1) (cW (Kd.R_reads' ae.out).2.2) ((Kd.R_reads' ae.out).2.1) A76.out) fun nd => ?_; obtain ⟨ei, ej, dA⟩ := Kd.R_slice aj.out; subst dA) | (go_at_call 15; (with_reducible refine (graftwoodref05_Same.calls kj58 _ _ ai _ _ aa true _ (cW (Kd.R_reads' aj.out).2.2) ((Kd.R_reads' aj.out).2.1) (cW (Kd.R_reads' ad.out).2.2) ((Kd.R_reads' ad.out).2.1) A78.out).mono ?_); rintro e w' ⟨rfl, ⟨nd, rfl⟩⟩) | (go_at_call 15; (with_reducible refine (graftwoodref05_Same.calls kj58 _ _ aa _ _ ab true _ (cW (Kd.R_reads' ad.out).2.2) ((Kd.R_reads' ad.out).2.1) (cW (Kd.R_reads' ae.out).2.2) ((Kd.R_reads' ae.out).2.1) A85.out).mono ?_); rintro e w' ⟨rfl, ⟨nd, rfl⟩⟩) | (go_at_call 8; (with_reducible refine (graftwoodlaw17_awake.calls kj58  aw _ A87.out).mono ?_); rintro e w90 ⟨rfl, hb⟩; replace ad := am (rB ad.out hb); replace ae := am (rB ae.out hb); replace ah := am (rB ah.out hb); replace aj := am (rB aj.out hb); replace HB := am (sTx HB.out hb)))
                   go_ret
                   exact ⟨rfF, eTx HB.out⟩
                  ·obtain rfl := smI H
                   obtain ⟨dB, dC, dD⟩ := Kd.R_slice ah.out
                   subst dD
                   go_wp2_with (first | ((with_reducible refine gtC 15 ?_); refine xCz 155 Tryd.func15 (graftwoodref05_Same.calls kj58 _ _ af _ _ ab true _ (cW (Kd.R_reads' ah.out).2.2) ((Kd.R_reads' ah.out).2.1) (cW (Kd.R_reads' ae.out).2.2) ((Kd.R_reads' ae.out).2.1) A76.out) fun nd => ?_; obtain ⟨ek, el, dE⟩ := Kd.R_slice aj.out; subst dE) | (go_at_call 15; (with_reducible refine (graftwoodref05_Same.calls kj58 _ _ ai _ _ aa true _ (cW (Kd.R_reads' aj.out).2.2) ((Kd.R_reads' aj.out).2.1) (cW (Kd.R_reads' ad.out).2.2) ((Kd.R_reads' ad.out).2.1) A78.out).mono ?_); rintro e w' ⟨rfl, ⟨nd, rfl⟩⟩) | (go_at_call 15; (with_reducible refine (graftwoodref05_Same.calls kj58 _ _ aa _ _ ab false _ (cW (Kd.R_reads' ad.out).2.2) ((Kd.R_reads' ad.out).2.1) (cW (Kd.R_reads' ae.out).2.2) ((Kd.R_reads' ae.out).2.1) A85.out).mono ?_); rintro e w' ⟨rfl, ⟨nd, rfl⟩⟩))
                   go_ret
                   exact ⟨rfF, eTx HB.out⟩
                 ·replace H := bnd H; obtain ⟨aD, A93, H⟩ := H
                  obtain rfl := smI H
                  obtain ⟨dF, dG, dH⟩ := Kd.R_slice ah.out
                  subst dH
                  go_wp2_with (first | ((with_reducible refine gtC 15 ?_); refine xCz 155 Tryd.func15 (graftwoodref05_Same.calls kj58 _ _ af _ _ ab true _ (cW (Kd.R_reads' ah.out).2.2) ((Kd.R_reads' ah.out).2.1) (cW (Kd.R_reads' ae.out).2.2) ((Kd.R_reads' ae.out).2.1) A76.out) fun nd => ?_; obtain ⟨em, en, dI⟩ := Kd.R_slice aj.out; subst dI) | (go_at_call 15; (with_reducible refine (graftwoodref05_Same.calls kj58 _ _ ai _ _ aa true _ (cW (Kd.R_reads' aj.out).2.2) ((Kd.R_reads' aj.out).2.1) (cW (Kd.R_reads' ad.out).2.2) ((Kd.R_reads' ad.out).2.1) A78.out).mono ?_); rintro e w' ⟨rfl, ⟨nd, rfl⟩⟩) | (go_at_call 8; (with_reducible refine (graftwoodlaw17_awake.calls kj58  aD _ A93.out).mono ?_); rintro e w96 ⟨rfl, hb⟩; replace ad := am (rB ad.out hb); replace ae := am (rB ae.out hb); replace ah := am (rB ah.out hb); replace aj := am (rB aj.out hb); replace HB := am (sTx HB.out hb)))
                  go_ret
                  exact ⟨rfF, eTx HB.out⟩
                ·obtain rfl := smI H
                 obtain ⟨dJ, dK, dL⟩ := Kd.R_slice ah.out
                 subst dL
                 go_wp2_with (first | ((with_reducible refine gtC 15 ?_); refine xCz 155 Tryd.func15 (graftwoodref05_Same.calls kj58 _ _ af _ _ ab true _ (cW (Kd.R_reads' ah.out).2.2) ((Kd.R_reads' ah.out).2.1) (cW (Kd.R_reads' ae.out).2.2) ((Kd.R_reads' ae.out).2.1) A76.out) fun nd => ?_; obtain ⟨eo, ep, dM⟩ := Kd.R_slice aj.out; subst dM) | (go_at_call 15; (with_reducible refine (graftwoodref05_Same.calls kj58 _ _ ai _ _ aa true _ (cW (Kd.R_reads' aj.out).2.2) ((Kd.R_reads' aj.out).2.1) (cW (Kd.R_reads' ad.out).2.2) ((Kd.R_reads' ad.out).2.1) A78.out).mono ?_); rintro e w' ⟨rfl, ⟨nd, rfl⟩⟩))
                 go_ret
                 exact ⟨rfF, eTx HB.out⟩
               ·replace H := ifB H; rcases H with ⟨rfl, H⟩ | ⟨rfl, H⟩
                ·replace H := bnd H; obtain ⟨aF, cv, H⟩ := H
                 replace H := ifB H; rcases H with ⟨rfl, H⟩ | ⟨rfl, H⟩
                 ·replace H := bnd H; obtain ⟨az, dN, H⟩ := H
                  obtain rfl := smI H
                  obtain ⟨cw, cx, cy⟩ := Kd.R_slice ah.out
                  subst cy
                  go_wp2_with (first | ((with_reducible refine gtC 15 ?_); refine xCz 155 Tryd.func15 (graftwoodref05_Same.calls kj58 _ _ af _ _ ab true _ (cW (Kd.R_reads' ah.out).2.2) ((Kd.R_reads' ah.out).2.1) (cW (Kd.R_reads' ae.out).2.2) ((Kd.R_reads' ae.out).2.1) A76.out) fun nd => ?_; obtain ⟨dR, dS, cz⟩ := Kd.R_slice aj.out; subst cz) | (go_at_call 15; (with_reducible refine (graftwoodref05_Same.calls kj58 _ _ ai _ _ aa true _ (cW (Kd.R_reads' aj.out).2.2) ((Kd.R_reads' aj.out).2.1) (cW (Kd.R_reads' ad.out).2.2) ((Kd.R_reads' ad.out).2.1) A78.out).mono ?_); rintro e w' ⟨rfl, ⟨nd, rfl⟩⟩) | (go_at_call 15; (with_reducible refine (graftwoodref05_Same.calls kj58 _ _ aa _ _ ab true _ (cW (Kd.R_reads' ad.out).2.2) ((Kd.R_reads' ad.out).2.1) (cW (Kd.R_reads' ae.out).2.2) ((Kd.R_reads' ae.out).2.1) cv.out).mono ?_); rintro e w' ⟨rfl, ⟨nd, rfl⟩⟩) | (go_at_call 8; (with_reducible refine (graftwoodlaw17_awake.calls kj58  az _ dN.out).mono ?_); rintro e eq ⟨rfl, hb⟩; replace ad := am (rB ad.out hb); replace ae := am (rB ae.out hb); replace ah := am (rB ah.out hb); replace aj := am (rB aj.out hb); replace HB := am (sTx HB.out hb)))
                  go_ret
                  exact ⟨rfF, eTx HB.out⟩
                 ·obtain rfl := smI H
                  obtain ⟨cA, cB, cC⟩ := Kd.R_slice ah.out
                  subst cC
                  go_wp2_with (first | ((with_reducible refine gtC 15 ?_); refine xCz 155 Tryd.func15 (graftwoodref05_Same.calls kj58 _ _ af _ _ ab true _ (cW (Kd.R_reads' ah.out).2.2) ((Kd.R_reads' ah.out).2.1) (cW (Kd.R_reads' ae.out).2.2) ((Kd.R_reads' ae.out).2.1) A76.out) fun nd => ?_; obtain ⟨dU, dV, cD⟩ := Kd.R_slice aj.out; subst cD) | (go_at_call 15; (with_reducible refine (graftwoodref05_Same.calls kj58 _ _ ai _ _ aa true _ (cW (Kd.R_reads' aj.out).2.2) ((Kd.R_reads' aj.out).2.1) (cW (Kd.R_reads' ad.out).2.2) ((Kd.R_reads' ad.out).2.1) A78.out).mono ?_); rintro e w' ⟨rfl, ⟨nd, rfl⟩⟩) | (go_at_call 15; (with_reducible refine (graftwoodref05_Same.calls kj58 _ _ aa _ _ ab false _ (cW (Kd.R_reads' ad.out).2.2) ((Kd.R_reads' ad.out).2.1) (cW (Kd.R_reads' ae.out).2.2) ((Kd.R_reads' ae.out).2.1) cv.out).mono ?_); rintro e w' ⟨rfl, ⟨nd, rfl⟩⟩))
                  go_ret
                  exact ⟨rfF, eTx HB.out⟩
                ·replace H := bnd H; obtain ⟨aG, dP, H⟩ := H
                 obtain rfl := smI H
                 obtain ⟨cE, cF, cG⟩ := Kd.R_slice ah.out
                 subst cG
                 go_wp2_with (first | ((with_reducible refine gtC 15 ?_); refine xCz 155 Tryd.func15 (graftwoodref05_Same.calls kj58 _ _ af _ _ ab true _ (cW (Kd.R_reads' ah.out).2.2) ((Kd.R_reads' ah.out).2.1) (cW (Kd.R_reads' ae.out).2.2) ((Kd.R_reads' ae.out).2.1) A76.out) fun nd => ?_; obtain ⟨dW, dX, cH⟩ := Kd.R_slice aj.out; subst cH) | (go_at_call 15; (with_reducible refine (graftwoodref05_Same.calls kj58 _ _ ai _ _ aa true _ (cW (Kd.R_reads' aj.out).2.2) ((Kd.R_reads' aj.out).2.1) (cW (Kd.R_reads' ad.out).2.2) ((Kd.R_reads' ad.out).2.1) A78.out).mono ?_); rintro e w' ⟨rfl, ⟨nd, rfl⟩⟩) | (go_at_call 8; (with_reducible refine (graftwoodlaw17_awake.calls kj58  aG _ dP.out).mono ?_); rintro e er ⟨rfl, hb⟩; replace ad := am (rB ad.out hb); replace ae := am (rB ae.out hb); replace ah := am (rB ah.out hb); replace aj := am (rB aj.out hb); replace HB := am (sTx HB.out hb)))
                 go_ret
                 exact ⟨rfF, eTx HB.out⟩
              ·replace H := bnd H; obtain ⟨aK, dQ, H⟩ := H
               obtain rfl := smI H
               obtain ⟨cI, cJ, cK⟩ := Kd.R_slice ah.out
               subst cK
               go_wp2_with (first | ((with_reducible refine gtC 15 ?_); refine xCz 155 Tryd.func15 (graftwoodref05_Same.calls kj58 _ _ af _ _ ab true _ (cW (Kd.R_reads' ah.out).2.2) ((Kd.R_reads' ah.out).2.1) (cW (Kd.R_reads' ae.out).2.2) ((Kd.R_reads' ae.out).2.1) A76.out) fun nd => ?_; obtain ⟨dY, dZ, cL⟩ := Kd.R_slice aj.out; subst cL) | (go_at_call 15; (with_reducible refine (graftwoodref05_Same.calls kj58 _ _ ai _ _ aa true _ (cW (Kd.R_reads' aj.out).2.2) ((Kd.R_reads' aj.out).2.1) (cW (Kd.R_reads' ad.out).2.2) ((Kd.R_reads' ad.out).2.1) A78.out).mono ?_); rintro e w' ⟨rfl, ⟨nd, rfl⟩⟩) | (go_at_call 8; (with_reducible refine (graftwoodlaw17_awake.calls kj58  aK _ dQ.out).mono ?_); rintro e es ⟨rfl, hb⟩; replace ad := am (rB ad.out hb); replace ae := am (rB ae.out hb); replace ah := am (rB ah.out hb); replace aj := am (rB aj.out hb); replace HB := am (sTx HB.out hb)))
               go_ret
               exact ⟨rfF, eTx HB.out⟩
             ·obtain rfl := smI H
              obtain ⟨cM, cN, cO⟩ := Kd.R_slice ah.out
              subst cO
              go_wp2_with (first | ((with_reducible refine gtC 15 ?_); refine xCz 155 Tryd.func15 (graftwoodref05_Same.calls kj58 _ _ af _ _ ab true _ (cW (Kd.R_reads' ah.out).2.2) ((Kd.R_reads' ah.out).2.1) (cW (Kd.R_reads' ae.out).2.2) ((Kd.R_reads' ae.out).2.1) A76.out) fun nd => ?_; obtain ⟨d0, d1, cP⟩ := Kd.R_slice aj.out; subst cP) | (go_at_call 15; (with_reducible refine (graftwoodref05_Same.calls kj58 _ _ ai _ _ aa true _ (cW (Kd.R_reads' aj.out).2.2) ((Kd.R_reads' aj.out).2.1) (cW (Kd.R_reads' ad.out).2.2) ((Kd.R_reads' ad.out).2.1) A78.out).mono ?_); rintro e w' ⟨rfl, ⟨nd, rfl⟩⟩))
              go_ret
              exact ⟨rfF, eTx HB.out⟩
            ·obtain rfl := smI H
             obtain ⟨cQ, cR, cS⟩ := Kd.R_slice ah.out
             subst cS
             go_wp2_with (first | ((with_reducible refine gtC 15 ?_); refine xCz 155 Tryd.func15 (graftwoodref05_Same.calls kj58 _ _ af _ _ ab true _ (cW (Kd.R_reads' ah.out).2.2) ((Kd.R_reads' ah.out).2.1) (cW (Kd.R_reads' ae.out).2.2) ((Kd.R_reads' ae.out).2.1) A76.out) fun nd => ?_; obtain ⟨d2, d3, cU⟩ := Kd.R_slice aj.out; subst cU) | (go_at_call 15; (with_reducible refine (graftwoodref05_Same.calls kj58 _ _ ai _ _ aa false _ (cW (Kd.R_reads' aj.out).2.2) ((Kd.R_reads' aj.out).2.1) (cW (Kd.R_reads' ad.out).2.2) ((Kd.R_reads' ad.out).2.1) A78.out).mono ?_); rintro e w' ⟨rfl, ⟨nd, rfl⟩⟩))
             go_ret
             exact ⟨rfF, eTx HB.out⟩
           ·obtain rfl := smI H
            obtain ⟨cV, cX, cY⟩ := Kd.R_slice ah.out
            subst cY
            go_wp2_with (first | ((with_reducible refine gtC 15 ?_); refine xCz 155 Tryd.func15 (graftwoodref05_Same.calls kj58 _ _ af _ _ ab false _ (cW (Kd.R_reads' ah.out).2.2) ((Kd.R_reads' ah.out).2.1) (cW (Kd.R_reads' ae.out).2.2) ((Kd.R_reads' ae.out).2.1) A76.out) fun nd => ?_))
            go_ret
            exact ⟨rfF, eTx HB.out⟩

end Go.Proofs.YtknmfmedklfepaaDoor.P
