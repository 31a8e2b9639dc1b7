-- half the indentation
import Derived.Test.YtknmfmedklfepaaGreatDoorSqz
import Derived.Test.YtknmfmedklfepaaGreatDoorP0
import Derived.Test.YtknmfmedklfepaaGreatDoorP4
import Derived.Test.YtknmfmedklfepaaGreatDoorP29
import Derived.Test.YtknmfmedklfepaaGreatDoorP30
import Derived.Test.YtknmfmedklfepaaGreatDoorP31
namespace Go.Proofs.YtknmfmedklfepaaGreatDoor.P
open Go.RowKit Go.Proofs.YtknmfmedklfepaaGreatDoorW.PrintWords Go.Proofs.YtknmfmedklfepaaGreatDoorW.PrintLast Go.Proofs.YtknmfmedklfepaaGreatDoorW.PrintMore
attribute [local go_sem] max2_int min2_int max_two min_two max_three min_three max_four min_four
set_option linter.unusedVariables false
set_option linter.unusedSimpArgs false
set_option maxHeartbeats 8000000
set_option maxRecDepth 100000

/-! ### graftwoodlaw17_awake: function 18 -/
def graftwoodlaw17_awake.f (k : Nat)  : Option (Bool) := (list_Build.f k (([(⟨(⟨#[97]⟩ : ByteArray), (([(⟨#[118, 49, 46, 48, 46, 48]⟩ : ByteArray), (⟨#[118, 49, 46, 49, 46, 48]⟩ : ByteArray)] : List ByteArray))⟩ : S63)] : List (S63)))).bind fun bt368 => ((list_Delta.f k (([(⟨(⟨#[97]⟩ : ByteArray), (⟨#[118, 49, 46, 48, 46, 48]⟩ : ByteArray)⟩ : S55)] : List (S55))) (([(⟨(⟨#[98]⟩ : ByteArray), (⟨#[118, 49, 46, 48, 46, 48]⟩ : ByteArray)⟩ : S55)] : List (S55)))).bind fun bt378 => ((list_Pick.f k bt368.1 (⟨#[98]⟩ : ByteArray)).bind fun bt382 => (if (bt368.1.length : Int) = 1 then (if 0 < (bt368.1.length : Int) then (if ((rd_T55 bt368.1 0).f1).toList = ([118, 49, 46, 49, 46, 48] : List UInt8) then (if bt368.2 = 0 then (if (bt378.1.length : Int) = 2 then (if bt378.2 = 0 then (some (bt382.2 == 2)) else (some false)) else (some false)) else (some false)) else (some false)) else (none)) else (some false))))
theorem graftwoodlaw17_awake.mono : ∀ k, LeO (graftwoodlaw17_awake.f k ) (graftwoodlaw17_awake.f (k + 1) ) := by
 intro  k
 unfold graftwoodlaw17_awake.f
 repeat' first | (with_reducible first | apply list_Build.mono | apply list_Delta.mono | apply list_Pick.mono | apply LeO.refl | apply LeO.none | apply LeO.ite | refine LeO.bind ?_ (fun _ => ?_)) | apply list_Build.mono | apply list_Delta.mono | apply list_Pick.mono | exact LeO.none _ | refine LeO.ite ?_ ?_ | refine LeO.bind ?_ (fun _ => ?_)
theorem graftwoodlaw17_awake.calls (k : Nat)  (r : Bool) (w : World) (h : graftwoodlaw17_awake.f k  = some r) :
  Calls Tryz.prog 18 #[] w fun e w' => e = .returned (.bool r) ∧ Below w.heap.size w w' := by
 have hu63 := Tryz.underlying63
 have hu55 := Tryz.underlying55
 have HB := am (Below.refl w.heap.size w)
 unfold graftwoodlaw17_awake.f at h; have H := h; clear h
 obtain ⟨aj, aK⟩ : ∃ y_ : List ByteArray, y_ = (([(⟨#[118, 49, 46, 48, 46, 48]⟩ : ByteArray), (⟨#[118, 49, 46, 49, 46, 48]⟩ : ByteArray)] : List ByteArray)) := ⟨_, rfl⟩
 replace H : ((list_Build.f k (([(⟨(⟨#[97]⟩ : ByteArray), aj⟩ : S63)] : List (S63)))).bind fun bt368 => ((list_Delta.f k (([(⟨(⟨#[97]⟩ : ByteArray), (⟨#[118, 49, 46, 48, 46, 48]⟩ : ByteArray)⟩ : S55)] : List (S55))) (([(⟨(⟨#[98]⟩ : ByteArray), (⟨#[118, 49, 46, 48, 46, 48]⟩ : ByteArray)⟩ : S55)] : List (S55)))).bind fun bt378 => ((list_Pick.f k bt368.1 (⟨#[98]⟩ : ByteArray)).bind fun bt382 => (if (bt368.1.length : Int) = 1 then (if 0 < (bt368.1.length : Int) then (if ((rd_T55 bt368.1 0).f1).toList = ([118, 49, 46, 49, 46, 48] : List UInt8) then (if bt368.2 = 0 then (if (bt378.1.length : Int) = 2 then (if bt378.2 = 0 then (some (bt382.2 == 2)) else (some false)) else (some false)) else (some false)) else (some false)) else (none)) else (some false))))) = some r := by first | (rw [aK]; with_reducible exact H) | (have H2_ := (Option.bind_some _ _).symm.trans H; rw [aK]; with_reducible exact H2_) | (have H2_ := (Option.bind_some _ _).symm.trans H; with_reducible exact H2_) | with_reducible exact H | (rw [aK]; exact H) | exact H
 have Ny362 := Aside0.mk aK
 clear aK
 obtain ⟨aC, aM⟩ : ∃ y_ : List (S63), y_ = (([(⟨(⟨#[97]⟩ : ByteArray), aj⟩ : S63)] : List (S63))) := ⟨_, rfl⟩
 replace H : ((list_Build.f k aC).bind fun bt368 => ((list_Delta.f k (([(⟨(⟨#[97]⟩ : ByteArray), (⟨#[118, 49, 46, 48, 46, 48]⟩ : ByteArray)⟩ : S55)] : List (S55))) (([(⟨(⟨#[98]⟩ : ByteArray), (⟨#[118, 49, 46, 48, 46, 48]⟩ : ByteArray)⟩ : S55)] : List (S55)))).bind fun bt378 => ((list_Pick.f k bt368.1 (⟨#[98]⟩ : ByteArray)).bind fun bt382 => (if (bt368.1.length : Int) = 1 then (if 0 < (bt368.1.length : Int) then (if ((rd_T55 bt368.1 0).f1).toList = ([118, 49, 46, 49, 46, 48] : List UInt8) then (if bt368.2 = 0 then (if (bt378.1.length : Int) = 2 then (if bt378.2 = 0 then (some (bt382.2 == 2)) else (some false)) else (some false)) else (some false)) else (some false)) else (none)) else (some false))))) = some r := by first | (rw [aM]; with_reducible exact H) | (have H2_ := (Option.bind_some _ _).symm.trans H; rw [aM]; with_reducible exact H2_) | (have H2_ := (Option.bind_some _ _).symm.trans H; with_reducible exact H2_) | with_reducible exact H | (rw [aM]; exact H) | exact H
 have Ny365 := Aside0.mk aM
 clear aM
 replace H := bnd H; obtain ⟨⟨af, an⟩, A1, H⟩ := H
 (try dsimp only at H)
 obtain ⟨ao, aN⟩ : ∃ y_ : List (S55), y_ = (([(⟨(⟨#[97]⟩ : ByteArray), (⟨#[118, 49, 46, 48, 46, 48]⟩ : ByteArray)⟩ : S55)] : List (S55))) := ⟨_, rfl⟩
 replace H : ((list_Delta.f k ao (([(⟨(⟨#[98]⟩ : ByteArray), (⟨#[118, 49, 46, 48, 46, 48]⟩ : ByteArray)⟩ : S55)] : List (S55)))).bind fun bt378 => ((list_Pick.f k af (⟨#[98]⟩ : ByteArray)).bind fun bt382 => (if (af.length : Int) = 1 then (if 0 < (af.length : Int) then (if ((rd_T55 af 0).f1).toList = ([118, 49, 46, 49, 46, 48] : List UInt8) then (if an = 0 then (if (bt378.1.length : Int) = 2 then (if bt378.2 = 0 then (some (bt382.2 == 2)) else (some false)) else (some false)) else (some false)) else (some false)) else (none)) else (some false)))) = some r := by first | (rw [aN]; with_reducible exact H) | (have H2_ := (Option.bind_some _ _).symm.trans H; rw [aN]; with_reducible exact H2_) | (have H2_ := (Option.bind_some _ _).symm.trans H; with_reducible exact H2_) | with_reducible exact H | (rw [aN]; exact H) | exact H
 have Ny372 := Aside0.mk aN
 clear aN
 obtain ⟨aD, aQ⟩ : ∃ y_ : List (S55), y_ = (([(⟨(⟨#[98]⟩ : ByteArray), (⟨#[118, 49, 46, 48, 46, 48]⟩ : ByteArray)⟩ : S55)] : List (S55))) := ⟨_, rfl⟩
 replace H : ((list_Delta.f k ao aD).bind fun bt378 => ((list_Pick.f k af (⟨#[98]⟩ : ByteArray)).bind fun bt382 => (if (af.length : Int) = 1 then (if 0 < (af.length : Int) then (if ((rd_T55 af 0).f1).toList = ([118, 49, 46, 49, 46, 48] : List UInt8) then (if an = 0 then (if (bt378.1.length : Int) = 2 then (if bt378.2 = 0 then (some (bt382.2 == 2)) else (some false)) else (some false)) else (some false)) else (some false)) else (none)) else (some false)))) = some r := by first | (rw [aQ]; with_reducible exact H) | (have H2_ := (Option.bind_some _ _).symm.trans H; rw [aQ]; with_reducible exact H2_) | (have H2_ := (Option.bind_some _ _).symm.trans H; with_reducible exact H2_) | with_reducible exact H | (rw [aQ]; exact H) | exact H
 have Ny375 := Aside0.mk aQ
 clear aQ
 replace H := bnd H; obtain ⟨⟨aE, aG⟩, A2, H⟩ := H
 (try dsimp only at H)
 replace H := bnd H; obtain ⟨⟨aW, aU⟩, A3, H⟩ := H
 (try dsimp only at H)
 replace H := ifP H; rcases H with ⟨c4, H⟩ | ⟨c4, H⟩
 rotate_left
 have bv := beq_eq_false_iff_ne.mpr c4
 have bw := bne_iff_ne.mpr c4
 obtain rfl := smI H
 rotate_right
 have bv := beq_iff_eq.mpr c4
 have bw := bne_eq_false_iff_eq.mpr c4
 clear c4
 replace H := ifN H; obtain ⟨c5, H⟩ := H
 have bx := decide_eq_true c5
 have cU : decide (0 < af.length) = true := decide_eq_true (by omega)
 clear c5
 replace H := ifP H; rcases H with ⟨c6, H⟩ | ⟨c6, H⟩
 rotate_left
 have a5 := beq_eq_false_iff_ne.mpr c6
 have bz := bne_iff_ne.mpr c6
 obtain rfl := smI H
 rotate_right
 have a5 := beq_iff_eq.mpr c6
 have bz := bne_eq_false_iff_eq.mpr c6
 clear c6
 replace H := ifP H; rcases H with ⟨c7, H⟩ | ⟨c7, H⟩
 rotate_left
 have bC := beq_eq_false_iff_ne.mpr c7
 have bD := bne_iff_ne.mpr c7
 obtain rfl := smI H
 rotate_right
 have bC := beq_iff_eq.mpr c7
 have bD := bne_eq_false_iff_eq.mpr c7
 clear c7
 replace H := ifP H; rcases H with ⟨c8, H⟩ | ⟨c8, H⟩
 rotate_left
 have bE := beq_eq_false_iff_ne.mpr c8
 have bF := bne_iff_ne.mpr c8
 obtain rfl := smI H
 rotate_right
 have bE := beq_iff_eq.mpr c8
 have bF := bne_eq_false_iff_eq.mpr c8
 clear c8
 replace H := ifP H; rcases H with ⟨c9, H⟩ | ⟨c9, H⟩
 rotate_left
 have bG := beq_eq_false_iff_ne.mpr c9
 have bH := bne_iff_ne.mpr c9
 obtain rfl := smI H
 rotate_right
 have bG := beq_iff_eq.mpr c9
 have bH := bne_eq_false_iff_eq.mpr c9
 clear c9
 obtain rfl := smI H
 all_goals (go_enter Tryz.func18, Tryz.ntmps18)
 all_goals (go_wp2_with (first | ((with_reducible refine gtD 8 ?_); (try (refine gate_guard (by rfl) ?_; dsimp only)); refine Kd.R_lit Kd.string _ 9 ?hg (N := 8) ?hd (xs := ([(⟨#[118, 49, 46, 48, 46, 48]⟩ : ByteArray), (⟨#[118, 49, 46, 49, 46, 48]⟩ : ByteArray)] : List ByteArray)) (inner := [.string (⟨#[118, 49, 46, 48, 46, 48]⟩ : ByteArray), .string (⟨#[118, 49, 46, 49, 46, 48]⟩ : ByteArray)]) (ok := fun _ => True) (okp := fun _ => True) ?hr ?hp (fun _ hk => hk) trivial (Below.refl _ _) (Nat.le_refl _) (by simp) ?_; (case hd => rfl); (case hg => rfl); (case hr => first | (go_simp; done) | (go_simp; rfl)); (case hp => exact (Reps.one (show Kd.M Kd.string _ _ _ (⟨#[118, 49, 46, 48, 46, 48]⟩ : ByteArray) [.string (⟨#[118, 49, 46, 48, 46, 48]⟩ : ByteArray)] from rfl) (Reps.one (show Kd.M Kd.string _ _ _ (⟨#[118, 49, 46, 49, 46, 48]⟩ : ByteArray) [.string (⟨#[118, 49, 46, 49, 46, 48]⟩ : ByteArray)] from rfl) (Reps.none _ _)))); intro aY w10 ho11 hb hg_ hnew_; clear hg_ hnew_; (first | rw [← Ny362.out] at ho11 | (simp only [Int.reduceToNat] at ho11; rw [← Ny362.out] at ho11)); have ai := am (Kd.R_lower ho11 (below_size (eTx HB.out))); replace HB := am (sTx HB.out hb); clear hb ho11; obtain ⟨a6, a7, bI⟩ := Kd.R_slice ai.out; subst bI) | ((with_reducible refine gtD 10 ?_); (try (refine gate_guard (by rfl) ?_; dsimp only)); refine Kd.N_lit k63 _ 63 ?hg (N' := 10) ?hd (xs := ([(⟨(⟨#[97]⟩ : ByteArray), aj⟩ : S63)] : List (S63))) (inner := [.string (⟨#[97]⟩ : ByteArray), .slice a6 aj.length a7]) (ok := (fun _ => True)) (okp := (fun _ => True)) ?hr ?hp (fun _ hk => hk) ((show ∀ k_, w10.heap.size ≤ k_ → (fun _ => True) k_ from fun k_ hk => trivial) _ (Nat.le_refl _)) (Below.refl _ _) (Nat.le_refl _) (by simp) ?_; (case hd => rfl); (case hg => rfl); (case hr => first | (go_simp; done) | (go_simp; rfl)); (case hp => exact (Reps.c2 (show Kd.FK k63 _ _ (⟨(⟨#[97]⟩ : ByteArray), aj⟩ : S63) [.string (⟨#[97]⟩ : ByteArray), .slice a6 aj.length a7] from (k63_mkF _ _ (⟨(⟨#[97]⟩ : ByteArray), aj⟩ : S63) (Kd.R_reads' (Kd.R_mono (ok' := (fun _ => True)) (ai.out) (fun k_ hk => trivial))).2.1 (Kd.R_F (Kd.R_mono (ok' := (fun _ => True)) (ai.out) (fun k_ hk => trivial))))) (Reps.none _ _))); intro aZ w13 ho14 hb hg_ hnew_; clear hg_ hnew_; (first | rw [← Ny365.out] at ho14 | (simp only [Int.reduceToNat] at ho14; rw [← Ny365.out] at ho14)); have ab := am (Kd.N_lower ho14 (below_size (eTx HB.out))); replace HB := am (sTx HB.out hb); clear ai hb ho14; obtain ⟨bJ, bK, bL⟩ := Kd.N_slice ab.out; subst bL) | ((with_reducible refine gtC 10 ?_); refine xCl 11 Tryz.func10 (list_Build.calls k _ _ aC af an _ (cW (Kd.N_reads' ab.out).2.2) ((Kd.N_reads' ab.out).2.1) A1.out) ?_; rintro e w16 ⟨a1, rfl, ho0, hb⟩; refine ⟨_, rfl, ?_⟩; replace ab := am (Kd.N_elder' (by (with_reducible repeat (first | apply Kd.N_alloc | apply Kd.N_drewN | apply Kd.N_drew)); exact ab.out) (Kd.R_base ho0) hb); have aa := am (Kd.R_lower ho0 (below_size (eTx HB.out))); replace HB := am (sTx HB.out hb)) | ((with_reducible refine gtD 16 ?_); (try (refine gate_guard (by rfl) ?_; dsimp only)); refine Kd.R_lit k55 _ 55 ?hg (N := 16) ?hd (xs := ([(⟨(⟨#[97]⟩ : ByteArray), (⟨#[118, 49, 46, 48, 46, 48]⟩ : ByteArray)⟩ : S55)] : List (S55))) (inner := [.string (⟨#[97]⟩ : ByteArray), .string (⟨#[118, 49, 46, 48, 46, 48]⟩ : ByteArray)]) (ok := fun _ => True) (okp := fun _ => True) ?hr ?hp (fun _ hk => hk) trivial (Below.refl _ _) (Nat.le_refl _) (by simp) ?_; (case hd => rfl); (case hg => rfl); (case hr => first | (go_simp; done) | (go_simp; rfl)); (case hp => exact (Reps.c2 (show Kd.M k55 _ _ _ (⟨(⟨#[97]⟩ : ByteArray), (⟨#[118, 49, 46, 48, 46, 48]⟩ : ByteArray)⟩ : S55) [.string (⟨#[97]⟩ : ByteArray), .string (⟨#[118, 49, 46, 48, 46, 48]⟩ : ByteArray)] from (k55_mkM _ _ _ (⟨(⟨#[97]⟩ : ByteArray), (⟨#[118, 49, 46, 48, 46, 48]⟩ : ByteArray)⟩ : S55) )) (Reps.none _ _))); intro a2 w17 ho18 hb hg_ hnew_; clear hg_ hnew_; (first | rw [← Ny372.out] at ho18 | (simp only [Int.reduceToNat] at ho18; rw [← Ny372.out] at ho18)); replace ab := am (Kd.N_elder' (by (with_reducible repeat (first | apply Kd.N_alloc | apply Kd.N_drewN | apply Kd.N_drew)); exact ab.out) (Kd.R_base ho18) hb); have ac := am (Kd.R_lower (Kd.R_new' ho18 (Kd.R_lt (rT aa.out))) (below_size (eTx HB.out))); replace aa := am (Kd.R_elder' (rT aa.out) (Kd.R_base ho18) hb); replace HB := am (sTx HB.out hb); clear hb ho18) | ((with_reducible refine gtD 18 ?_); (try (refine gate_guard (by rfl) ?_; dsimp only)); refine Kd.R_lit k55 _ 55 ?hg (N := 18) ?hd (xs := ([(⟨(⟨#[98]⟩ : ByteArray), (⟨#[118, 49, 46, 48, 46, 48]⟩ : ByteArray)⟩ : S55)] : List (S55))) (inner := [.string (⟨#[98]⟩ : ByteArray), .string (⟨#[118, 49, 46, 48, 46, 48]⟩ : ByteArray)]) (ok := fun _ => True) (okp := fun _ => True) ?hr ?hp (fun _ hk => hk) trivial (Below.refl _ _) (Nat.le_refl _) (by simp) ?_; (case hd => rfl); (case hg => rfl); (case hr => first | (go_simp; done) | (go_simp; rfl)); (case hp => exact (Reps.c2 (show Kd.M k55 _ _ _ (⟨(⟨#[98]⟩ : ByteArray), (⟨#[118, 49, 46, 48, 46, 48]⟩ : ByteArray)⟩ : S55) [.string (⟨#[98]⟩ : ByteArray), .string (⟨#[118, 49, 46, 48, 46, 48]⟩ : ByteArray)] from (k55_mkM _ _ _ (⟨(⟨#[98]⟩ : ByteArray), (⟨#[118, 49, 46, 48, 46, 48]⟩ : ByteArray)⟩ : S55) )) (Reps.none _ _))); intro a3 w19 ho20 hb hg_ hnew_; clear hg_ hnew_; (first | rw [← Ny375.out] at ho20 | (simp only [Int.reduceToNat] at ho20; rw [← Ny375.out] at ho20)); replace ab := am (Kd.N_elder' (by (with_reducible repeat (first | apply Kd.N_alloc | apply Kd.N_drewN | apply Kd.N_drew)); exact ab.out) (Kd.R_base ho20) hb); have ad := am (Kd.R_lower (Kd.R_new' (Kd.R_new' ho20 (Kd.R_lt (rT aa.out))) (Kd.R_lt (rT ac.out))) (below_size (eTx HB.out))); replace aa := am (Kd.R_elder' (rT aa.out) (Kd.R_base ho20) hb); replace ac := am (Kd.R_elder' (rT ac.out) (Kd.R_base ho20) hb); replace HB := am (sTx HB.out hb); clear hb ho20; obtain ⟨bM, bN, bO⟩ := Kd.R_slice ac.out; subst bO; obtain ⟨bP, bQ, bR⟩ := Kd.R_slice ad.out; subst bR) | ((with_reducible refine gtC 23 ?_); refine xCl 19 Tryz.func23 (list_Delta.calls k _ _ ao _ _ aD aE aG _ (cW (Kd.R_reads' ac.out).2.2) ((Kd.R_reads' ac.out).2.1) (cW (Kd.R_reads' ad.out).2.2) ((Kd.R_reads' ad.out).2.1) A2.out) ?_; rintro e w23 ⟨a4, rfl, ho0, hb⟩; refine ⟨_, rfl, ?_⟩; replace ab := am (Kd.N_elder' (by (with_reducible repeat (first | apply Kd.N_alloc | apply Kd.N_drewN | apply Kd.N_drew)); exact ab.out) (Kd.R_base ho0) hb); replace aa := am (rB aa.out hb); replace ac := am (rB ac.out hb); replace ad := am (rB ad.out hb); have ak := am (Kd.R_lower ho0 (below_size (eTx HB.out))); replace HB := am (sTx HB.out hb); obtain ⟨bS, bU, bV⟩ := Kd.R_slice aa.out; subst bV) | ((with_reducible refine gtC 11 ?_); refine xCb 24 Tryz.func11 (list_Pick.calls k _ _ af (⟨#[98]⟩ : ByteArray) aW aU _ (cW (Kd.R_reads' aa.out).2.2) ((Kd.R_reads' aa.out).2.1) A3.out) fun w25 hb => ?_; replace ab := am (Kd.N_below (by (with_reducible repeat (first | apply Kd.N_alloc | apply Kd.N_drewN | apply Kd.N_drew)); exact ab.out) hb); replace aa := am (rB aa.out hb); replace ac := am (rB ac.out hb); replace ad := am (rB ad.out hb); replace ak := am (rB ak.out hb); replace HB := am (sTx HB.out hb); (try (have p384 : 0 ≤ (0 : Int) := (by omega); have q384 : 0 < (af.length : Int) := of_decide_eq_true rfA; obtain ⟨ad384, e384, ag, ah⟩ := at_T55 (Kd.R_reads' aa.out).2.2 0 p384 q384; cases e384; have qi384 : (0 < af.length) = True := eq_true (by omega); (try rw [show ((0 : Int)).toNat = 0 from rfl] at ag); (try rw [show 0 * 2 = 0 from rfl] at ag); (try rw [Addr.add_zero'] at ag); (try rw [show ((0 : Int)).toNat = 0 from rfl] at ah); (try rw [show 0 * 2 = 0 from rfl] at ah); (try rw [Addr.add_zero'] at ah); replace p384 := eq_true p384; replace q384 := eq_true q384)); obtain ⟨cV, cX, bW⟩ := Kd.R_slice ak.out; subst bW)))
 all_goals go_ret
 all_goals (exact ⟨rfF, eTx HB.out⟩)
/-! ### graftwoodlaw17_Few: function 22 -/
mutual
def graftwoodlaw17_Few.l0 : Nat → List (S75) → List (S75) → Int → Option ((List (S75)))
 | 0, _, _, _ => none
 | k + 1, x0, x3, x4 => if x4 < (x0.length : Int) then (graftwoodlaw17_Few.j1 k x0 x3 x4 (decide (x4 < 20))) else (graftwoodlaw17_Few.j1 k x0 x3 x4 false)
def graftwoodlaw17_Few.j1 : Nat → List (S75) → List (S75) → Int → Bool → Option ((List (S75)))
 | 0, _, _, _, _ => none
 | k + 1, x0, x3, x4, x12 => if x12 = true then (if 0 ≤ x4 then (if x4 < (x0.length : Int) then ((graftwoodlaw01_Few.f ((rd_T75 x0 x4).f0)).bind fun aI => ((graftwoodlaw01_Few.f ((rd_T75 x0 x4).f1)).bind fun aH => ((graftwoodlaw01_Few.f ((rd_T75 x0 x4).f2)).bind fun ap => (if x3.length < 2932031007402 then (graftwoodlaw17_Few.l0 k x0 (x3 ++ [(⟨aI, aH, ap⟩ : S75)]) (wrap64 (x4 + 1))) else (none))))) else (none)) else (none)) else (some x3)
end
def graftwoodlaw17_Few.f (k : Nat) (l0 : List (S75)) : Option ((List (S75))) := graftwoodlaw17_Few.l0 k l0 ([] : List (S75)) 0
theorem graftwoodlaw17_Few.mono_l : ∀ k, (∀ y0 y1 y2, LeO (graftwoodlaw17_Few.l0 k y0 y1 y2) (graftwoodlaw17_Few.l0 (k + 1) y0 y1 y2)) ∧ (∀ y0 y1 y2 y3, LeO (graftwoodlaw17_Few.j1 k y0 y1 y2 y3) (graftwoodlaw17_Few.j1 (k + 1) y0 y1 y2 y3))
 | 0 => ⟨fun _ _ _ r h => by simp [graftwoodlaw17_Few.l0] at h, fun _ _ _ _ r h => by simp [graftwoodlaw17_Few.j1] at h⟩
 | k + 1 => by
  obtain ⟨ih0, ih1⟩ := graftwoodlaw17_Few.mono_l k
  refine ⟨?_, ?_⟩
  ·intro y0 y1 y2
   unfold graftwoodlaw17_Few.l0
   repeat' first | (with_reducible first | apply ih0 | apply ih1 | apply LeO.refl | apply LeO.none | apply LeO.ite | refine LeO.bind ?_ (fun _ => ?_)) | apply ih0 | apply ih1 | exact LeO.none _ | refine LeO.ite ?_ ?_ | refine LeO.bind ?_ (fun _ => ?_)
  ·intro y0 y1 y2 y3
   unfold graftwoodlaw17_Few.j1
   repeat' first | (with_reducible first | apply ih0 | apply ih1 | apply LeO.refl | apply LeO.none | apply LeO.ite | refine LeO.bind ?_ (fun _ => ?_)) | apply ih0 | apply ih1 | exact LeO.none _ | refine LeO.ite ?_ ?_ | refine LeO.bind ?_ (fun _ => ?_)
theorem graftwoodlaw17_Few.mono : ∀ a0 k, LeO (graftwoodlaw17_Few.f k a0) (graftwoodlaw17_Few.f (k + 1) a0) := by
 intro a0 k
 obtain ⟨ih0, ih1⟩ := graftwoodlaw17_Few.mono_l k
 unfold graftwoodlaw17_Few.f
 repeat' first | (with_reducible first | apply ih0 | apply ih1 | apply LeO.refl | apply LeO.none | apply LeO.ite | refine LeO.bind ?_ (fun _ => ?_)) | apply ih0 | apply ih1 | exact LeO.none _ | refine LeO.ite ?_ ?_ | refine LeO.bind ?_ (fun _ => ?_)
def graftwoodlaw17_Few.T5 : Bool × List (List Nat × List Nat) := (true, [([], []), ([], []), ([], []), ([1, 2], [1, 2]), ([3], [3]), ([4], [4]), ([5], [5]), ([], []), ([], []), ([7, 8], [7, 8]), ([9], [9]), ([10], [10]), ([11, 6], [11]), ([], []), ([], []), ([13, 14], [13, 14]), ([15], [15]), ([16], [16]), ([17, 12], [17]), ([6, 12, 18], [6, 12, 18]), ([19], [19]), ([0, 20, 18], [0, 20]), ([21, 21, 0, 1, 2, 3, 4, 5, 6, 7, 8, 9, 10, 11, 12, 13, 14, 15, 16, 17, 18, 19, 20, 21], [0, 21])])
def graftwoodlaw17_Few.B5 : List Nat := [0, 0, 0, 6, 14, 30, 62, 0, 0, 384, 896, 1920, 4094, 0, 0, 24576, 57344, 122880, 262142, 524286, 1048574, 2097151, 4194303]
theorem graftwoodlaw17_Few.tab5 : rtab .any (opsOf Tryz.f22 5) = graftwoodlaw17_Few.T5 := by kernel_rfl
theorem graftwoodlaw17_Few.bits5 : waitsOk graftwoodlaw17_Few.T5.2 graftwoodlaw17_Few.B5 = true := by kernel_rfl
theorem graftwoodlaw17_Few.calls (k : Nat) (A0 : Option Addr) (c0 : Nat) (l0 : List (S75)) (r : List (S75)) (w : World) (hr0 : Kd.C k75 w A0 l0.length l0) (hc0 : l0.length ≤ c0) (h : graftwoodlaw17_Few.f k l0 = some r) :
  Calls Tryz.prog 22 #[.slice A0 l0.length c0] w fun e w' => ∃ v0_ : Value, e = .returned (v0_) ∧ Kd.R k75 75 w' w.heap.size (fun _ => True) v0_ r ∧ Below w.heap.size w w' := by
 have hu75 := Tryz.underlying75
 have HR0 := Aside0.mk hr0
 have HC0 := Aside0.mk hc0
 clear hr0 hc0
 have HB := am (Below.refl w.heap.size w)
 unfold graftwoodlaw17_Few.f at h; have H := h; clear h
 have H' := Aside0.mk H
 clear H
 go_enter Tryz.func22, Tryz.ntmps22
 go_wp2
 go_loopg [3, 4] k (fun kq v3 v4 w' => ∃ (al : List (S75)) (ae : Int), v4 = .int .i64 ae ∧ Aside0 (graftwoodlaw17_Few.l0 kq l0 al ae = some r) ∧ Aside0 (kq ≤ k) ∧ Aside0 (Kd.R k75 75 w' w.heap.size (fun _ => True) v3 al) ∧ Aside0 (Below w.heap.size w w'))
 case atStart => exact ⟨(([] : List (S75))), (0), rfG, H', ⟨Nat.le_refl _⟩, ⟨rfM⟩, ⟨eTx HB.out⟩⟩
 case round =>
  clear H'
  obtain ⟨al, ae, rfl, HA, HK1, aJ, HB⟩ := hrel
  cases gk with
  | zero => exact absurd HA.out (by simp [graftwoodlaw17_Few.l0])
  | succ k1 =>
   have H := HA.out
   clear HA
   simp only [graftwoodlaw17_Few.l0] at H
   have HC2 := Aside0.mk H
   clear H
   go_upto_region 3 with (fail)
   go_cut [12] (fun v12 wc => ∃ (kq : Nat) (aV : Bool), v12 = .bool aV ∧ Aside0 (graftwoodlaw17_Few.j1 kq l0 al ae aV = some r) ∧ Aside0 (kq ≤ k1) ∧ Aside0 (Kd.R k75 75 wc w.heap.size (fun _ => True) u3 al) ∧ Aside0 (Below w.heap.size w wc))
   case first =>
    have H := HC2.out
    clear HC2
    replace H := ifP H; rcases H with ⟨c3, H⟩ | ⟨c3, H⟩
    ·have aX := decide_eq_true c3
     clear c3
     (first | rw [aX] | (simp only [i64_w, i32_w]; rw [aX]) | skip)
     have H' := Aside0.mk H
     clear H
     go_wp2
     go_meet
     case rel => exact ⟨_, (decide (ae < 20)), rfG, H', ⟨by have := HK1.out; first | omega | exact Nat.le_refl _⟩, ⟨rT aJ.out⟩, ⟨eTx HB.out⟩⟩
    ·have aX := decide_eq_false c3
     clear c3
     (first | rw [aX] | (simp only [i64_w, i32_w]; rw [aX]) | skip)
     have H' := Aside0.mk H
     clear H
     go_wp2
     go_meet
     case rel => exact ⟨_, (false), rfG, H', ⟨by have := HK1.out; first | omega | exact Nat.le_refl _⟩, ⟨rT aJ.out⟩, ⟨eTx HB.out⟩⟩
   case rest =>
    clear HC2
    obtain ⟨kq, aV, rfl, HA, HJ1, aJ, HB⟩ := hcut
    cases kq with
    | zero => exact absurd HA.out (by simp [graftwoodlaw17_Few.j1])
    | succ kj1 =>
     have H := HA.out
     clear HA
     simp only [graftwoodlaw17_Few.j1] at H
     replace H := ifB H; rcases H with ⟨rfl, H⟩ | ⟨rfl, H⟩
     ·replace H := ifN H; obtain ⟨c5, H⟩ := H
      have bx := decide_eq_true c5
      clear c5
      replace H := ifN H; obtain ⟨c6, H⟩ := H
      have a5 := decide_eq_true c6
      clear c6
      replace H := bnd H; obtain ⟨aI, A7, H⟩ := H
      replace H := bnd H; obtain ⟨aH, A8, H⟩ := H
      replace H := bnd H; obtain ⟨ap, A9, H⟩ := H
      replace H := ifN H; obtain ⟨c10, H⟩ := H
      have LMc10 := Aside0.mk c10
      clear c10
      obtain ⟨bt, aR⟩ : ∃ y_ : List (S75), y_ = (al ++ [(⟨aI, aH, ap⟩ : S75)]) := ⟨_, rfl⟩
      replace H : (graftwoodlaw17_Few.l0 kj1 l0 bt (wrap64 (ae + 1))) = some r := by first | (rw [aR]; with_reducible exact H) | (have H2_ := (Option.bind_some _ _).symm.trans H; rw [aR]; with_reducible exact H2_) | (have H2_ := (Option.bind_some _ _).symm.trans H; with_reducible exact H2_) | with_reducible exact H | (rw [aR]; exact H) | exact H
      have Ny391 := Aside0.mk aR
      clear aR
      have H' := Aside0.mk H
      clear H
      try go_wp2
      replace aJ := am (Kd.R_drew aJ.out)
      replace HB := am (below_drew1 HB.out)
      have p385 : 0 ≤ (ae : Int) := of_decide_eq_true rfA
      have q385 : ae < (l0.length : Int) := of_decide_eq_true rfA
      obtain ⟨ad385, e385, aq, ar, au⟩ := at_T75 HR0.out ae p385 q385
      have hw385_2 := au
      have hw385_1 := ar
      have hw385_0 := aq
      cases e385
      replace aq := (HB.out.cell (World.block_lt_of_cell? w _ aq)).trans aq
      replace ar := (HB.out.cell (World.block_lt_of_cell? w _ ar)).trans ar
      replace au := (HB.out.cell (World.block_lt_of_cell? w _ au)).trans au
      replace p385 := eq_true p385
      replace q385 := eq_true q385
      have p387 : 0 ≤ (ae : Int) := of_decide_eq_true rfA
      have q387 : ae < (l0.length : Int) := of_decide_eq_true rfA
      obtain ⟨ad387, e387, av, aw, ax⟩ := at_T75 HR0.out ae p387 q387
      have hw387_2 := ax
      have hw387_1 := aw
      have hw387_0 := av
      obtain rfl : ad385 = ad387 := (by injection e387)
      replace av := (HB.out.cell (World.block_lt_of_cell? w _ av)).trans av
      replace aw := (HB.out.cell (World.block_lt_of_cell? w _ aw)).trans aw
      replace ax := (HB.out.cell (World.block_lt_of_cell? w _ ax)).trans ax
      replace p387 := eq_true p387
      replace q387 := eq_true q387
      have p389 : 0 ≤ (ae : Int) := of_decide_eq_true rfA
      have q389 : ae < (l0.length : Int) := of_decide_eq_true rfA
      obtain ⟨ad389, e389, ay, az, aA⟩ := at_T75 HR0.out ae p389 q389
      have hw389_2 := aA
      have hw389_1 := az
      have hw389_0 := ay
      obtain rfl : ad385 = ad389 := (by injection e389)
      replace ay := (HB.out.cell (World.block_lt_of_cell? w _ ay)).trans ay
      replace az := (HB.out.cell (World.block_lt_of_cell? w _ az)).trans az
      replace aA := (HB.out.cell (World.block_lt_of_cell? w _ aA)).trans aA
      replace p389 := eq_true p389
      replace q389 := eq_true q389
      refine start_ (n := 23) (S := fun w' => w'.cell? (ad385.add ((ae).toNat * 3)) = some (.string ((rd_T75 l0 ae).f0)) ∧ w'.cell? ⟨(ad385.add ((ae).toNat * 3)).block, (ad385.add ((ae).toNat * 3)).off + 1, none⟩ = some (.string ((rd_T75 l0 ae).f1)) ∧ w'.cell? ⟨(ad385.add ((ae).toNat * 3)).block, (ad385.add ((ae).toNat * 3)).off + 2, none⟩ = some (.string ((rd_T75 l0 ae).f2)) ∧ w'.cell? (ad385.add ((ae).toNat * 3)) = some (.string ((rd_T75 l0 ae).f0)) ∧ w'.cell? ⟨(ad385.add ((ae).toNat * 3)).block, (ad385.add ((ae).toNat * 3)).off + 1, none⟩ = some (.string ((rd_T75 l0 ae).f1)) ∧ w'.cell? ⟨(ad385.add ((ae).toNat * 3)).block, (ad385.add ((ae).toNat * 3)).off + 2, none⟩ = some (.string ((rd_T75 l0 ae).f2)) ∧ w'.cell? (ad385.add ((ae).toNat * 3)) = some (.string ((rd_T75 l0 ae).f0)) ∧ w'.cell? ⟨(ad385.add ((ae).toNat * 3)).block, (ad385.add ((ae).toNat * 3)).off + 1, none⟩ = some (.string ((rd_T75 l0 ae).f1)) ∧ w'.cell? ⟨(ad385.add ((ae).toNat * 3)).block, (ad385.add ((ae).toNat * 3)).off + 2, none⟩ = some (.string ((rd_T75 l0 ae).f2))) (ds := []) (bA 23 0) rfK rfl rfK ⟨((HB.out.cell (World.block_lt_of_cell? w _ hw385_0)).trans hw385_0), ((HB.out.cell (World.block_lt_of_cell? w _ hw385_1)).trans hw385_1), ((HB.out.cell (World.block_lt_of_cell? w _ hw385_2)).trans hw385_2), ((HB.out.cell (World.block_lt_of_cell? w _ hw387_0)).trans hw387_0), ((HB.out.cell (World.block_lt_of_cell? w _ hw387_1)).trans hw387_1), ((HB.out.cell (World.block_lt_of_cell? w _ hw387_2)).trans hw387_2), ((HB.out.cell (World.block_lt_of_cell? w _ hw389_0)).trans hw389_0), ((HB.out.cell (World.block_lt_of_cell? w _ hw389_1)).trans hw389_1), ((HB.out.cell (World.block_lt_of_cell? w _ hw389_2)).trans hw389_2)⟩ (fun hHeld => ?_); refine with_tabW graftwoodlaw17_Few.tab5 graftwoodlaw17_Few.bits5 (fun HT_ HW_ => ?_)
      generalize wc.drew = w11 at aJ HB aq ar au av aw ax ay az aA hHeld ⊢
      refine pT 0 15 (bA 23 1) HT_.out ?_
      refine pT 1 16 (bA 23 3) HT_.out ?_
      refine pT 2 17 (bA 23 7) HT_.out ?_
      refine pT 3 18 (bA 23 15) HT_.out ?_
      refine pT 4 19 (bA 23 31) HT_.out ?_
      refine pT 7 22 (bA 23 159) HT_.out ?_
      refine pT 8 23 (bA 23 415) HT_.out ?_
      refine pT 9 24 (bA 23 927) HT_.out ?_
      refine pT 10 25 (bA 23 1951) HT_.out ?_
      refine pT 13 28 (bA 23 10143) HT_.out ?_
      refine pT 14 29 (bA 23 26527) HT_.out ?_
      refine pT 15 30 (bA 23 59295) HT_.out ?_
      refine pT 16 31 (bA 23 124831) HT_.out ?_
      refine tT 5 20 (bA 23 124863) HT_.out HW_.out hHeld ?_ (hy := by rintro w' ⟨s0, s1, s2, s3, s4, s5, s6, s7, s8⟩; go_simp; with_reducible rfl)
      refine tT 11 26 (bA 23 126911) HT_.out HW_.out hHeld ?_ (hy := by rintro w' ⟨s0, s1, s2, s3, s4, s5, s6, s7, s8⟩; go_simp; with_reducible rfl)
      refine tT 17 32 (bA 23 257983) HT_.out HW_.out hHeld ?_ (hy := by rintro w' ⟨s0, s1, s2, s3, s4, s5, s6, s7, s8⟩; go_simp; with_reducible rfl)
      refine oT 6 (bA 23 258047) HT_.out fun K hK => ?_
      refine gS Tryz.func9 #[.string ((rd_T75 l0 ae).f0)] ?_
      with_reducible refine (graftwoodlaw01_Few.calls ((rd_T75 l0 ae).f0) aI _ A7.out).mono ?_
      rintro e w' ⟨rfl, ⟨nd, rfl⟩⟩
      refine ⟨_, rfl, ?_⟩
      refine hK.out _ _ ⟨((HB.out.cell (World.block_lt_of_cell? w _ hw385_0)).trans hw385_0), ((HB.out.cell (World.block_lt_of_cell? w _ hw385_1)).trans hw385_1), ((HB.out.cell (World.block_lt_of_cell? w _ hw385_2)).trans hw385_2), ((HB.out.cell (World.block_lt_of_cell? w _ hw387_0)).trans hw387_0), ((HB.out.cell (World.block_lt_of_cell? w _ hw387_1)).trans hw387_1), ((HB.out.cell (World.block_lt_of_cell? w _ hw387_2)).trans hw387_2), ((HB.out.cell (World.block_lt_of_cell? w _ hw389_0)).trans hw389_0), ((HB.out.cell (World.block_lt_of_cell? w _ hw389_1)).trans hw389_1), ((HB.out.cell (World.block_lt_of_cell? w _ hw389_2)).trans hw389_2)⟩ (fun hHeld => ?_)
      clear hK K
      refine mN 21 ?_
      refine oT 12 (bA 23 262143) HT_.out fun K hK => ?_
      refine gS Tryz.func9 #[.string ((rd_T75 l0 ae).f1)] ?_
      with_reducible refine (graftwoodlaw01_Few.calls ((rd_T75 l0 ae).f1) aH _ A8.out).mono ?_
      rintro e w' ⟨rfl, ⟨nd, rfl⟩⟩
      refine ⟨_, rfl, ?_⟩
      refine hK.out _ _ ⟨((HB.out.cell (World.block_lt_of_cell? w _ hw385_0)).trans hw385_0), ((HB.out.cell (World.block_lt_of_cell? w _ hw385_1)).trans hw385_1), ((HB.out.cell (World.block_lt_of_cell? w _ hw385_2)).trans hw385_2), ((HB.out.cell (World.block_lt_of_cell? w _ hw387_0)).trans hw387_0), ((HB.out.cell (World.block_lt_of_cell? w _ hw387_1)).trans hw387_1), ((HB.out.cell (World.block_lt_of_cell? w _ hw387_2)).trans hw387_2), ((HB.out.cell (World.block_lt_of_cell? w _ hw389_0)).trans hw389_0), ((HB.out.cell (World.block_lt_of_cell? w _ hw389_1)).trans hw389_1), ((HB.out.cell (World.block_lt_of_cell? w _ hw389_2)).trans hw389_2)⟩ (fun hHeld => ?_)
      clear hK K
      refine mN 27 ?_
      refine oT 18 (bA 23 524287) HT_.out fun K hK => ?_
      refine gS Tryz.func9 #[.string ((rd_T75 l0 ae).f2)] ?_
      with_reducible refine (graftwoodlaw01_Few.calls ((rd_T75 l0 ae).f2) ap _ A9.out).mono ?_
      rintro e w' ⟨rfl, ⟨nd, rfl⟩⟩
      refine ⟨_, rfl, ?_⟩
      refine hK.out _ _ ⟨((HB.out.cell (World.block_lt_of_cell? w _ hw385_0)).trans hw385_0), ((HB.out.cell (World.block_lt_of_cell? w _ hw385_1)).trans hw385_1), ((HB.out.cell (World.block_lt_of_cell? w _ hw385_2)).trans hw385_2), ((HB.out.cell (World.block_lt_of_cell? w _ hw387_0)).trans hw387_0), ((HB.out.cell (World.block_lt_of_cell? w _ hw387_1)).trans hw387_1), ((HB.out.cell (World.block_lt_of_cell? w _ hw387_2)).trans hw387_2), ((HB.out.cell (World.block_lt_of_cell? w _ hw389_0)).trans hw389_0), ((HB.out.cell (World.block_lt_of_cell? w _ hw389_1)).trans hw389_1), ((HB.out.cell (World.block_lt_of_cell? w _ hw389_2)).trans hw389_2)⟩ (fun hHeld => ?_)
      clear hK K
      refine mN 33 ?_
      refine pT 19 34 (bA 23 1048575) HT_.out ?_
      refine oT 20 (bA 23 2097151) HT_.out fun K hK => ?_
      refine value_ (w1 := ?_) (v := ?_) (by rfl) rfl ?_ ?_
      rotate_left 2
      ·go_simp
       constructor
       ·rfl
       ·rfl
      refine hK.out _ _ ⟨(World.cell?_alloc_lt _ _ _ (World.block_lt_of_cell? _ _ (((HB.out.cell (World.block_lt_of_cell? w _ hw385_0)).trans hw385_0)))).trans (((HB.out.cell (World.block_lt_of_cell? w _ hw385_0)).trans hw385_0)), (World.cell?_alloc_lt _ _ _ (World.block_lt_of_cell? _ _ (((HB.out.cell (World.block_lt_of_cell? w _ hw385_1)).trans hw385_1)))).trans (((HB.out.cell (World.block_lt_of_cell? w _ hw385_1)).trans hw385_1)), (World.cell?_alloc_lt _ _ _ (World.block_lt_of_cell? _ _ (((HB.out.cell (World.block_lt_of_cell? w _ hw385_2)).trans hw385_2)))).trans (((HB.out.cell (World.block_lt_of_cell? w _ hw385_2)).trans hw385_2)), (World.cell?_alloc_lt _ _ _ (World.block_lt_of_cell? _ _ (((HB.out.cell (World.block_lt_of_cell? w _ hw387_0)).trans hw387_0)))).trans (((HB.out.cell (World.block_lt_of_cell? w _ hw387_0)).trans hw387_0)), (World.cell?_alloc_lt _ _ _ (World.block_lt_of_cell? _ _ (((HB.out.cell (World.block_lt_of_cell? w _ hw387_1)).trans hw387_1)))).trans (((HB.out.cell (World.block_lt_of_cell? w _ hw387_1)).trans hw387_1)), (World.cell?_alloc_lt _ _ _ (World.block_lt_of_cell? _ _ (((HB.out.cell (World.block_lt_of_cell? w _ hw387_2)).trans hw387_2)))).trans (((HB.out.cell (World.block_lt_of_cell? w _ hw387_2)).trans hw387_2)), (World.cell?_alloc_lt _ _ _ (World.block_lt_of_cell? _ _ (((HB.out.cell (World.block_lt_of_cell? w _ hw389_0)).trans hw389_0)))).trans (((HB.out.cell (World.block_lt_of_cell? w _ hw389_0)).trans hw389_0)), (World.cell?_alloc_lt _ _ _ (World.block_lt_of_cell? _ _ (((HB.out.cell (World.block_lt_of_cell? w _ hw389_1)).trans hw389_1)))).trans (((HB.out.cell (World.block_lt_of_cell? w _ hw389_1)).trans hw389_1)), (World.cell?_alloc_lt _ _ _ (World.block_lt_of_cell? _ _ (((HB.out.cell (World.block_lt_of_cell? w _ hw389_2)).trans hw389_2)))).trans (((HB.out.cell (World.block_lt_of_cell? w _ hw389_2)).trans hw389_2))⟩ (fun hHeld => ?_)
      clear hK K
      refine mN 35 ?_
      refine oT 21 (bA 23 4194303) HT_.out fun K hK => ?_
      refine Kd.R_append_step k75 (w0 := w) w.heap.size (by rfl) (.tmp 15) (.tmp 35) 43 75 (.agg #[(.string ⟨#[]⟩), (.string ⟨#[]⟩), (.string ⟨#[]⟩)]) 48 rfl Tryz.underlying43 info75 rfl (by decide) (by omega) u3 al (⟨aI, aH, ap⟩ : S75) [.string aI, .string aH, .string ap] (fun _ => True) (fun _ => False) rfl rfl ?aP (fun _ hk => hk.elim) ?aF ?aO ?aB ?aS ?aL ?_
      (case aP => exact k75_mkM _ _ _ (⟨aI, aH, ap⟩ : S75))
      (case aB => exact (eTx HB.out))
      (case aF => exact (fun _ _ => trivial))
      (case aO => exact (rT aJ.out))
      (case aS => exact (below_size (eTx HB.out)))
      (case aL => have := LMc10.out; omega)
      intro de w12 ho hb hg hat
      rw [← Ny391.out] at ho
      replace HB := am (hb)
      have bu := am (ho)
      clear aJ ho hb hg hat
      refine hK.out _ _ ⟨((HB.out.cell (World.block_lt_of_cell? w _ hw385_0)).trans hw385_0), ((HB.out.cell (World.block_lt_of_cell? w _ hw385_1)).trans hw385_1), ((HB.out.cell (World.block_lt_of_cell? w _ hw385_2)).trans hw385_2), ((HB.out.cell (World.block_lt_of_cell? w _ hw387_0)).trans hw387_0), ((HB.out.cell (World.block_lt_of_cell? w _ hw387_1)).trans hw387_1), ((HB.out.cell (World.block_lt_of_cell? w _ hw387_2)).trans hw387_2), ((HB.out.cell (World.block_lt_of_cell? w _ hw389_0)).trans hw389_0), ((HB.out.cell (World.block_lt_of_cell? w _ hw389_1)).trans hw389_1), ((HB.out.cell (World.block_lt_of_cell? w _ hw389_2)).trans hw389_2)⟩ (fun hHeld => ?_)
      clear hK K
      refine mN 36 ?_
      refine pT 22 3 (bA 23 8388607) HT_.out ?_
      refine done_ (done_of HT_.out rfK) ?_
      try go_wp2
      go_roundg kj1
      case measure => have := HK1.out; have := HJ1.out; omega
      case rel => exact ⟨(bt), (wrap64 (ae + 1)), rfG, H', ⟨by have := HK1.out; have := HJ1.out; omega⟩, ⟨rT bu.out⟩, ⟨eTx HB.out⟩⟩
     ·obtain rfl := smI H
      go_wp2
      go_ret
      exact ⟨_, rfF, by (with_reducible repeat (first | apply Kd.R_alloc | apply Kd.R_drewN | apply Kd.R_drew)); exact aJ.out, eTx HB.out⟩

-- HAND: list_Apply: with the text above

end Go.Proofs.YtknmfmedklfepaaGreatDoor.P
