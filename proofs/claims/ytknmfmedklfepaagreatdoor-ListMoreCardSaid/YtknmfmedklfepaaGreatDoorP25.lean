-- half the indentation
import Derived.Test.YtknmfmedklfepaaGreatDoorSqz
import Derived.Test.YtknmfmedklfepaaGreatDoorP0
import Derived.Test.YtknmfmedklfepaaGreatDoorP3
import Derived.Test.YtknmfmedklfepaaGreatDoorP22
import Derived.Test.YtknmfmedklfepaaGreatDoorP23
import Derived.Test.YtknmfmedklfepaaGreatDoorP24
namespace Go.Proofs.YtknmfmedklfepaaGreatDoor.P
open Go.RowKit Go.Proofs.YtknmfmedklfepaaGreatDoorW.PrintWords Go.Proofs.YtknmfmedklfepaaGreatDoorW.PrintLast Go.Proofs.YtknmfmedklfepaaGreatDoorW.PrintMore
attribute [local go_sem] max2_int min2_int max_two min_two max_three min_three max_four min_four
set_option linter.unusedVariables false
set_option linter.unusedSimpArgs false
set_option maxHeartbeats 8000000
set_option maxRecDepth 100000

/-! ### graftwoodlaw17_awake: function 18 -/
def graftwoodlaw17_awake.f (k : Nat)  : Option (Bool) := (list_Build.f k (([(⟨(⟨#[97]⟩ : ByteArray), (([(⟨#[118, 49, 46, 48, 46, 48]⟩ : ByteArray), (⟨#[118, 49, 46, 49, 46, 48]⟩ : ByteArray)] : List ByteArray))⟩ : S63)] : List (S63)))).bind fun bt284 => ((list_Delta.f k (([(⟨(⟨#[97]⟩ : ByteArray), (⟨#[118, 49, 46, 48, 46, 48]⟩ : ByteArray)⟩ : S55)] : List (S55))) (([(⟨(⟨#[98]⟩ : ByteArray), (⟨#[118, 49, 46, 48, 46, 48]⟩ : ByteArray)⟩ : S55)] : List (S55)))).bind fun bt294 => ((list_Pick.f k bt284.1 (⟨#[98]⟩ : ByteArray)).bind fun bt298 => (if (bt284.1.length : Int) = 1 then (if 0 < (bt284.1.length : Int) then (if ((rd_T55 bt284.1 0).f1).toList = ([118, 49, 46, 49, 46, 48] : List UInt8) then (if bt284.2 = 0 then (if (bt294.1.length : Int) = 2 then (if bt294.2 = 0 then (some (bt298.2 == 2)) else (some false)) else (some false)) else (some false)) else (some false)) else (none)) else (some false))))
theorem graftwoodlaw17_awake.mono : ∀ k, LeO (graftwoodlaw17_awake.f k ) (graftwoodlaw17_awake.f (k + 1) ) := by
 intro  k
 unfold graftwoodlaw17_awake.f
 repeat' first | (with_reducible first | apply list_Build.mono | apply list_Delta.mono | apply list_Pick.mono | apply LeO.refl | apply LeO.none | apply LeO.ite | refine LeO.bind ?_ (fun _ => ?_)) | apply list_Build.mono | apply list_Delta.mono | apply list_Pick.mono | exact LeO.none _ | refine LeO.ite ?_ ?_ | refine LeO.bind ?_ (fun _ => ?_)
theorem graftwoodlaw17_awake.calls (k : Nat)  (r : Bool) (w : World) (h : graftwoodlaw17_awake.f k  = some r) :
  Calls Tryz.prog 18 #[] w fun e w' => e = .returned (.bool r) ∧ Below w.heap.size w w' := by
 have hu63 := Tryz.underlying63
 have hu55 := Tryz.underlying55
 have HB := am (Below.refl w.heap.size w)
 unfold graftwoodlaw17_awake.f at h; have H := h; clear h
 obtain ⟨ai, aA⟩ : ∃ y_ : List ByteArray, y_ = (([(⟨#[118, 49, 46, 48, 46, 48]⟩ : ByteArray), (⟨#[118, 49, 46, 49, 46, 48]⟩ : ByteArray)] : List ByteArray)) := ⟨_, rfl⟩
 replace H : ((list_Build.f k (([(⟨(⟨#[97]⟩ : ByteArray), ai⟩ : S63)] : List (S63)))).bind fun bt284 => ((list_Delta.f k (([(⟨(⟨#[97]⟩ : ByteArray), (⟨#[118, 49, 46, 48, 46, 48]⟩ : ByteArray)⟩ : S55)] : List (S55))) (([(⟨(⟨#[98]⟩ : ByteArray), (⟨#[118, 49, 46, 48, 46, 48]⟩ : ByteArray)⟩ : S55)] : List (S55)))).bind fun bt294 => ((list_Pick.f k bt284.1 (⟨#[98]⟩ : ByteArray)).bind fun bt298 => (if (bt284.1.length : Int) = 1 then (if 0 < (bt284.1.length : Int) then (if ((rd_T55 bt284.1 0).f1).toList = ([118, 49, 46, 49, 46, 48] : List UInt8) then (if bt284.2 = 0 then (if (bt294.1.length : Int) = 2 then (if bt294.2 = 0 then (some (bt298.2 == 2)) else (some false)) else (some false)) else (some false)) else (some false)) else (none)) else (some false))))) = some r := by first | (rw [aA]; with_reducible exact H) | (have H2_ := (Option.bind_some _ _).symm.trans H; rw [aA]; with_reducible exact H2_) | (have H2_ := (Option.bind_some _ _).symm.trans H; with_reducible exact H2_) | with_reducible exact H | (rw [aA]; exact H) | exact H
 have Ny278 := Aside0.mk aA
 clear aA
 obtain ⟨ap, aB⟩ : ∃ y_ : List (S63), y_ = (([(⟨(⟨#[97]⟩ : ByteArray), ai⟩ : S63)] : List (S63))) := ⟨_, rfl⟩
 replace H : ((list_Build.f k ap).bind fun bt284 => ((list_Delta.f k (([(⟨(⟨#[97]⟩ : ByteArray), (⟨#[118, 49, 46, 48, 46, 48]⟩ : ByteArray)⟩ : S55)] : List (S55))) (([(⟨(⟨#[98]⟩ : ByteArray), (⟨#[118, 49, 46, 48, 46, 48]⟩ : ByteArray)⟩ : S55)] : List (S55)))).bind fun bt294 => ((list_Pick.f k bt284.1 (⟨#[98]⟩ : ByteArray)).bind fun bt298 => (if (bt284.1.length : Int) = 1 then (if 0 < (bt284.1.length : Int) then (if ((rd_T55 bt284.1 0).f1).toList = ([118, 49, 46, 49, 46, 48] : List UInt8) then (if bt284.2 = 0 then (if (bt294.1.length : Int) = 2 then (if bt294.2 = 0 then (some (bt298.2 == 2)) else (some false)) else (some false)) else (some false)) else (some false)) else (none)) else (some false))))) = some r := by first | (rw [aB]; with_reducible exact H) | (have H2_ := (Option.bind_some _ _).symm.trans H; rw [aB]; with_reducible exact H2_) | (have H2_ := (Option.bind_some _ _).symm.trans H; with_reducible exact H2_) | with_reducible exact H | (rw [aB]; exact H) | exact H
 have Ny281 := Aside0.mk aB
 clear aB
 replace H := bnd H; obtain ⟨⟨ae, an⟩, A1, H⟩ := H
 (try dsimp only at H)
 obtain ⟨ao, aC⟩ : ∃ y_ : List (S55), y_ = (([(⟨(⟨#[97]⟩ : ByteArray), (⟨#[118, 49, 46, 48, 46, 48]⟩ : ByteArray)⟩ : S55)] : List (S55))) := ⟨_, rfl⟩
 replace H : ((list_Delta.f k ao (([(⟨(⟨#[98]⟩ : ByteArray), (⟨#[118, 49, 46, 48, 46, 48]⟩ : ByteArray)⟩ : S55)] : List (S55)))).bind fun bt294 => ((list_Pick.f k ae (⟨#[98]⟩ : ByteArray)).bind fun bt298 => (if (ae.length : Int) = 1 then (if 0 < (ae.length : Int) then (if ((rd_T55 ae 0).f1).toList = ([118, 49, 46, 49, 46, 48] : List UInt8) then (if an = 0 then (if (bt294.1.length : Int) = 2 then (if bt294.2 = 0 then (some (bt298.2 == 2)) else (some false)) else (some false)) else (some false)) else (some false)) else (none)) else (some false)))) = some r := by first | (rw [aC]; with_reducible exact H) | (have H2_ := (Option.bind_some _ _).symm.trans H; rw [aC]; with_reducible exact H2_) | (have H2_ := (Option.bind_some _ _).symm.trans H; with_reducible exact H2_) | with_reducible exact H | (rw [aC]; exact H) | exact H
 have Ny288 := Aside0.mk aC
 clear aC
 obtain ⟨aq, aD⟩ : ∃ y_ : List (S55), y_ = (([(⟨(⟨#[98]⟩ : ByteArray), (⟨#[118, 49, 46, 48, 46, 48]⟩ : ByteArray)⟩ : S55)] : List (S55))) := ⟨_, rfl⟩
 replace H : ((list_Delta.f k ao aq).bind fun bt294 => ((list_Pick.f k ae (⟨#[98]⟩ : ByteArray)).bind fun bt298 => (if (ae.length : Int) = 1 then (if 0 < (ae.length : Int) then (if ((rd_T55 ae 0).f1).toList = ([118, 49, 46, 49, 46, 48] : List UInt8) then (if an = 0 then (if (bt294.1.length : Int) = 2 then (if bt294.2 = 0 then (some (bt298.2 == 2)) else (some false)) else (some false)) else (some false)) else (some false)) else (none)) else (some false)))) = some r := by first | (rw [aD]; with_reducible exact H) | (have H2_ := (Option.bind_some _ _).symm.trans H; rw [aD]; with_reducible exact H2_) | (have H2_ := (Option.bind_some _ _).symm.trans H; with_reducible exact H2_) | with_reducible exact H | (rw [aD]; exact H) | exact H
 have Ny291 := Aside0.mk aD
 clear aD
 replace H := bnd H; obtain ⟨⟨ar, au⟩, A2, H⟩ := H
 (try dsimp only at H)
 replace H := bnd H; obtain ⟨⟨aF, aE⟩, A3, H⟩ := H
 (try dsimp only at H)
 replace H := ifP H; rcases H with ⟨c4, H⟩ | ⟨c4, H⟩
 rotate_left
 have a_ := beq_eq_false_iff_ne.mpr c4
 have bb := bne_iff_ne.mpr c4
 obtain rfl := smI H
 rotate_right
 have a_ := beq_iff_eq.mpr c4
 have bb := bne_eq_false_iff_eq.mpr c4
 clear c4
 replace H := ifN H; obtain ⟨c5, H⟩ := H
 have cJ := decide_eq_true c5
 have cK : decide (0 < ae.length) = true := decide_eq_true (by omega)
 clear c5
 replace H := ifP H; rcases H with ⟨c6, H⟩ | ⟨c6, H⟩
 rotate_left
 have bc := beq_eq_false_iff_ne.mpr c6
 have be := bne_iff_ne.mpr c6
 obtain rfl := smI H
 rotate_right
 have bc := beq_iff_eq.mpr c6
 have be := bne_eq_false_iff_eq.mpr c6
 clear c6
 replace H := ifP H; rcases H with ⟨c7, H⟩ | ⟨c7, H⟩
 rotate_left
 have bf := beq_eq_false_iff_ne.mpr c7
 have bg := bne_iff_ne.mpr c7
 obtain rfl := smI H
 rotate_right
 have bf := beq_iff_eq.mpr c7
 have bg := bne_eq_false_iff_eq.mpr c7
 clear c7
 replace H := ifP H; rcases H with ⟨c8, H⟩ | ⟨c8, H⟩
 rotate_left
 have bh := beq_eq_false_iff_ne.mpr c8
 have bi := bne_iff_ne.mpr c8
 obtain rfl := smI H
 rotate_right
 have bh := beq_iff_eq.mpr c8
 have bi := bne_eq_false_iff_eq.mpr c8
 clear c8
 replace H := ifP H; rcases H with ⟨c9, H⟩ | ⟨c9, H⟩
 rotate_left
 have bj := beq_eq_false_iff_ne.mpr c9
 have bk := bne_iff_ne.mpr c9
 obtain rfl := smI H
 rotate_right
 have bj := beq_iff_eq.mpr c9
 have bk := bne_eq_false_iff_eq.mpr c9
 clear c9
 obtain rfl := smI H
 all_goals (go_enter Tryz.func18, Tryz.ntmps18)
 all_goals (go_wp2_with (first | ((with_reducible refine gtD 8 ?_); (try (refine gate_guard (by rfl) ?_; dsimp only)); refine Kd.R_lit Kd.string _ 9 ?hg (N := 8) ?hd (xs := ([(⟨#[118, 49, 46, 48, 46, 48]⟩ : ByteArray), (⟨#[118, 49, 46, 49, 46, 48]⟩ : ByteArray)] : List ByteArray)) (inner := [.string (⟨#[118, 49, 46, 48, 46, 48]⟩ : ByteArray), .string (⟨#[118, 49, 46, 49, 46, 48]⟩ : ByteArray)]) (ok := fun _ => True) (okp := fun _ => True) ?hr ?hp (fun _ hk => hk) trivial (Below.refl _ _) (Nat.le_refl _) (by simp) ?_; (case hd => rfl); (case hg => rfl); (case hr => first | (go_simp; done) | (go_simp; rfl)); (case hp => exact (Reps.one (show Kd.M Kd.string _ _ _ (⟨#[118, 49, 46, 48, 46, 48]⟩ : ByteArray) [.string (⟨#[118, 49, 46, 48, 46, 48]⟩ : ByteArray)] from rfl) (Reps.one (show Kd.M Kd.string _ _ _ (⟨#[118, 49, 46, 49, 46, 48]⟩ : ByteArray) [.string (⟨#[118, 49, 46, 49, 46, 48]⟩ : ByteArray)] from rfl) (Reps.none _ _)))); intro aG w10 ho11 hb hg_ hnew_; clear hg_ hnew_; (first | rw [← Ny278.out] at ho11 | (simp only [Int.reduceToNat] at ho11; rw [← Ny278.out] at ho11)); have ah := am (Kd.R_lower ho11 (below_size (eTx HB.out))); replace HB := am (sTx HB.out hb); clear hb ho11; obtain ⟨aN, aO, bl⟩ := Kd.R_slice ah.out; subst bl) | ((with_reducible refine gtD 10 ?_); (try (refine gate_guard (by rfl) ?_; dsimp only)); refine Kd.N_lit k63 _ 63 ?hg (N' := 10) ?hd (xs := ([(⟨(⟨#[97]⟩ : ByteArray), ai⟩ : S63)] : List (S63))) (inner := [.string (⟨#[97]⟩ : ByteArray), .slice aN ai.length aO]) (ok := (fun _ => True)) (okp := (fun _ => True)) ?hr ?hp (fun _ hk => hk) ((show ∀ k_, w10.heap.size ≤ k_ → (fun _ => True) k_ from fun k_ hk => trivial) _ (Nat.le_refl _)) (Below.refl _ _) (Nat.le_refl _) (by simp) ?_; (case hd => rfl); (case hg => rfl); (case hr => first | (go_simp; done) | (go_simp; rfl)); (case hp => exact (Reps.c2 (show Kd.FK k63 _ _ (⟨(⟨#[97]⟩ : ByteArray), ai⟩ : S63) [.string (⟨#[97]⟩ : ByteArray), .slice aN ai.length aO] from (k63_mkF _ _ (⟨(⟨#[97]⟩ : ByteArray), ai⟩ : S63) (Kd.R_reads' (Kd.R_mono (ok' := (fun _ => True)) (ah.out) (fun k_ hk => trivial))).2.1 (Kd.R_F (Kd.R_mono (ok' := (fun _ => True)) (ah.out) (fun k_ hk => trivial))))) (Reps.none _ _))); intro aH w13 ho14 hb hg_ hnew_; clear hg_ hnew_; (first | rw [← Ny281.out] at ho14 | (simp only [Int.reduceToNat] at ho14; rw [← Ny281.out] at ho14)); have ab := am (Kd.N_lower ho14 (below_size (eTx HB.out))); replace HB := am (sTx HB.out hb); clear ah hb ho14; obtain ⟨bm, bo, bp⟩ := Kd.N_slice ab.out; subst bp) | ((with_reducible refine gtC 10 ?_); refine xCl 11 Tryz.func10 (list_Build.calls k _ _ ap ae an _ (cW (Kd.N_reads' ab.out).2.2) ((Kd.N_reads' ab.out).2.1) A1.out) ?_; rintro e w16 ⟨aI, rfl, ho0, hb⟩; refine ⟨_, rfl, ?_⟩; replace ab := am (Kd.N_elder' (by (with_reducible repeat (first | apply Kd.N_alloc | apply Kd.N_drewN | apply Kd.N_drew)); exact ab.out) (Kd.R_base ho0) hb); have aa := am (Kd.R_lower ho0 (below_size (eTx HB.out))); replace HB := am (sTx HB.out hb)) | ((with_reducible refine gtD 16 ?_); (try (refine gate_guard (by rfl) ?_; dsimp only)); refine Kd.R_lit k55 _ 55 ?hg (N := 16) ?hd (xs := ([(⟨(⟨#[97]⟩ : ByteArray), (⟨#[118, 49, 46, 48, 46, 48]⟩ : ByteArray)⟩ : S55)] : List (S55))) (inner := [.string (⟨#[97]⟩ : ByteArray), .string (⟨#[118, 49, 46, 48, 46, 48]⟩ : ByteArray)]) (ok := fun _ => True) (okp := fun _ => True) ?hr ?hp (fun _ hk => hk) trivial (Below.refl _ _) (Nat.le_refl _) (by simp) ?_; (case hd => rfl); (case hg => rfl); (case hr => first | (go_simp; done) | (go_simp; rfl)); (case hp => exact (Reps.c2 (show Kd.M k55 _ _ _ (⟨(⟨#[97]⟩ : ByteArray), (⟨#[118, 49, 46, 48, 46, 48]⟩ : ByteArray)⟩ : S55) [.string (⟨#[97]⟩ : ByteArray), .string (⟨#[118, 49, 46, 48, 46, 48]⟩ : ByteArray)] from (k55_mkM _ _ _ (⟨(⟨#[97]⟩ : ByteArray), (⟨#[118, 49, 46, 48, 46, 48]⟩ : ByteArray)⟩ : S55) )) (Reps.none _ _))); intro aJ w17 ho18 hb hg_ hnew_; clear hg_ hnew_; (first | rw [← Ny288.out] at ho18 | (simp only [Int.reduceToNat] at ho18; rw [← Ny288.out] at ho18)); replace ab := am (Kd.N_elder' (by (with_reducible repeat (first | apply Kd.N_alloc | apply Kd.N_drewN | apply Kd.N_drew)); exact ab.out) (Kd.R_base ho18) hb); have ac := am (Kd.R_lower (Kd.R_new' ho18 (Kd.R_lt (rT aa.out))) (below_size (eTx HB.out))); replace aa := am (Kd.R_elder' (rT aa.out) (Kd.R_base ho18) hb); replace HB := am (sTx HB.out hb); clear hb ho18) | ((with_reducible refine gtD 18 ?_); (try (refine gate_guard (by rfl) ?_; dsimp only)); refine Kd.R_lit k55 _ 55 ?hg (N := 18) ?hd (xs := ([(⟨(⟨#[98]⟩ : ByteArray), (⟨#[118, 49, 46, 48, 46, 48]⟩ : ByteArray)⟩ : S55)] : List (S55))) (inner := [.string (⟨#[98]⟩ : ByteArray), .string (⟨#[118, 49, 46, 48, 46, 48]⟩ : ByteArray)]) (ok := fun _ => True) (okp := fun _ => True) ?hr ?hp (fun _ hk => hk) trivial (Below.refl _ _) (Nat.le_refl _) (by simp) ?_; (case hd => rfl); (case hg => rfl); (case hr => first | (go_simp; done) | (go_simp; rfl)); (case hp => exact (Reps.c2 (show Kd.M k55 _ _ _ (⟨(⟨#[98]⟩ : ByteArray), (⟨#[118, 49, 46, 48, 46, 48]⟩ : ByteArray)⟩ : S55) [.string (⟨#[98]⟩ : ByteArray), .string (⟨#[118, 49, 46, 48, 46, 48]⟩ : ByteArray)] from (k55_mkM _ _ _ (⟨(⟨#[98]⟩ : ByteArray), (⟨#[118, 49, 46, 48, 46, 48]⟩ : ByteArray)⟩ : S55) )) (Reps.none _ _))); intro aK w19 ho20 hb hg_ hnew_; clear hg_ hnew_; (first | rw [← Ny291.out] at ho20 | (simp only [Int.reduceToNat] at ho20; rw [← Ny291.out] at ho20)); replace ab := am (Kd.N_elder' (by (with_reducible repeat (first | apply Kd.N_alloc | apply Kd.N_drewN | apply Kd.N_drew)); exact ab.out) (Kd.R_base ho20) hb); have ad := am (Kd.R_lower (Kd.R_new' (Kd.R_new' ho20 (Kd.R_lt (rT aa.out))) (Kd.R_lt (rT ac.out))) (below_size (eTx HB.out))); replace aa := am (Kd.R_elder' (rT aa.out) (Kd.R_base ho20) hb); replace ac := am (Kd.R_elder' (rT ac.out) (Kd.R_base ho20) hb); replace HB := am (sTx HB.out hb); clear hb ho20; obtain ⟨bq, br, bs⟩ := Kd.R_slice ac.out; subst bs; obtain ⟨bt, bu, bv⟩ := Kd.R_slice ad.out; subst bv) | ((with_reducible refine gtC 23 ?_); refine xCl 19 Tryz.func23 (list_Delta.calls k _ _ ao _ _ aq ar au _ (cW (Kd.R_reads' ac.out).2.2) ((Kd.R_reads' ac.out).2.1) (cW (Kd.R_reads' ad.out).2.2) ((Kd.R_reads' ad.out).2.1) A2.out) ?_; rintro e w23 ⟨aL, rfl, ho0, hb⟩; refine ⟨_, rfl, ?_⟩; replace ab := am (Kd.N_elder' (by (with_reducible repeat (first | apply Kd.N_alloc | apply Kd.N_drewN | apply Kd.N_drew)); exact ab.out) (Kd.R_base ho0) hb); replace aa := am (rB aa.out hb); replace ac := am (rB ac.out hb); replace ad := am (rB ad.out hb); have aj := am (Kd.R_lower ho0 (below_size (eTx HB.out))); replace HB := am (sTx HB.out hb); obtain ⟨bw, bx, bz⟩ := Kd.R_slice aa.out; subst bz) | ((with_reducible refine gtC 11 ?_); refine xCb 24 Tryz.func11 (list_Pick.calls k _ _ ae (⟨#[98]⟩ : ByteArray) aF aE _ (cW (Kd.R_reads' aa.out).2.2) ((Kd.R_reads' aa.out).2.1) A3.out) fun w25 hb => ?_; replace ab := am (Kd.N_below (by (with_reducible repeat (first | apply Kd.N_alloc | apply Kd.N_drewN | apply Kd.N_drew)); exact ab.out) hb); replace aa := am (rB aa.out hb); replace ac := am (rB ac.out hb); replace ad := am (rB ad.out hb); replace aj := am (rB aj.out hb); replace HB := am (sTx HB.out hb); (try (have p300 : 0 ≤ (0 : Int) := (by omega); have q300 : 0 < (ae.length : Int) := of_decide_eq_true rfA; obtain ⟨ad300, e300, af, ag⟩ := at_T55 (Kd.R_reads' aa.out).2.2 0 p300 q300; cases e300; have qi300 : (0 < ae.length) = True := eq_true (by omega); (try rw [show ((0 : Int)).toNat = 0 from rfl] at af); (try rw [show 0 * 2 = 0 from rfl] at af); (try rw [Addr.add_zero'] at af); (try rw [show ((0 : Int)).toNat = 0 from rfl] at ag); (try rw [show 0 * 2 = 0 from rfl] at ag); (try rw [Addr.add_zero'] at ag); replace p300 := eq_true p300; replace q300 := eq_true q300)); obtain ⟨cL, cM, bC⟩ := Kd.R_slice aj.out; subst bC)))
 all_goals go_ret
 all_goals (exact ⟨rfF, eTx HB.out⟩)
-- HAND: list_Above: with the text above

/-! ### graftwoodlaw05_One: function 29 -/
def graftwoodlaw05_One.f (a0_0 : ByteArray) (a0_1 : ByteArray) : Option (ByteArray × ByteArray) := (graftwoodlaw01_Few.f a0_0).bind fun ay => ((graftwoodlaw01_Few.f a0_1).bind fun az => (some (ay, az)))
def graftwoodlaw05_One.T1 : Bool × List (List Nat × List Nat) := (true, [([], []), ([0], [0]), ([1], [1]), ([], []), ([3], [3]), ([4, 2], [4]), ([2, 5], [2, 5]), ([6, 5, 0, 1, 2, 3, 4, 5, 6], [6])])
def graftwoodlaw05_One.B1 : List Nat := [0, 1, 3, 0, 8, 31, 63, 127]
theorem graftwoodlaw05_One.tab1 : rtab .any (opsOf Tryz.f29 1) = graftwoodlaw05_One.T1 := by kernel_rfl
theorem graftwoodlaw05_One.bits1 : waitsOk graftwoodlaw05_One.T1.2 graftwoodlaw05_One.B1 = true := by kernel_rfl
theorem graftwoodlaw05_One.calls (a0_0 : ByteArray) (a0_1 : ByteArray) (r1 : ByteArray) (r2 : ByteArray) (w : World) (h : graftwoodlaw05_One.f a0_0 a0_1 = some (r1, r2)) :
  Calls Tryz.prog 29 #[.agg #[.string a0_0, .string a0_1]] w fun e w' => e = .returned (.agg #[.string r1, .string r2]) ∧ Below w.heap.size w w' := by
 have hu55 := Tryz.underlying55
 have HB := am (Below.refl w.heap.size w)
 unfold graftwoodlaw05_One.f at h; have H := h; clear h
 replace H := bnd H; obtain ⟨ay, A2, H⟩ := H
 replace H := bnd H; obtain ⟨az, A3, H⟩ := H
 replace H := prB H; obtain ⟨rfl, rfl⟩ := H
 go_enter Tryz.func29, Tryz.ntmps29
 try go_wp2_with (first | ((with_reducible refine gtD 1 ?_); refine xBx 1 55 #[.string a0_0, .string a0_1] ?_; intro aM hg w4 hbox hb; have al := am (hbox); have cF := am ((gTx hg HB.out)); have cG := am ((gTx hg HB.out)); replace HB := am (sTx HB.out hb); clear hb hbox hg) | ((with_reducible refine gtD 2 ?_); refine xBx 2 55 #[.string (⟨#[]⟩ : ByteArray), .string (⟨#[]⟩ : ByteArray)] ?_; intro aw hg w5 hbox hb; have av := am (hbox); have cH := am ((gTx hg HB.out)); have cI := am ((gTx hg HB.out)); have ak := am ((nT al.out hg)); have ax := am ((mT al.out hg)); replace al := am (bB al.out hb); replace HB := am (sTx HB.out hb); clear hb hbox hg))
 replace al := am (blk_drew al.out)
 replace av := am (blk_drew av.out)
 replace HB := am (below_drew1 HB.out)
 refine start_ (n := 8) (S := fun w' => w'.cell? ⟨aM, 0, none⟩ = some (.string a0_0) ∧ w'.cell? ⟨aM, 1, none⟩ = some (.string a0_1)) (ds := []) (bA 8 0) rfK rfl rfK ⟨cT al 0, cT al 1⟩ (fun hHeld => ?_); refine with_tabW graftwoodlaw05_One.tab1 graftwoodlaw05_One.bits1 (fun HT_ HW_ => ?_)
 generalize w5.drew = w6 at al av HB hHeld ⊢
 refine pT 0 3 (bA 8 1) HT_.out ?_
 refine pT 3 6 (bA 8 9) HT_.out ?_
 refine tT 1 4 (bA 8 11) HT_.out HW_.out hHeld ?_ (hy := by rintro w' ⟨s0, s1⟩; go_simp; with_reducible rfl)
 refine tT 4 7 (bA 8 27) HT_.out HW_.out hHeld ?_ (hy := by rintro w' ⟨s0, s1⟩; go_simp; with_reducible rfl)
 refine oT 2 (bA 8 31) HT_.out fun K hK => ?_
 refine gS Tryz.func9 #[.string a0_0] ?_
 with_reducible refine (graftwoodlaw01_Few.calls a0_0 ay _ A2.out).mono ?_
 rintro e w' ⟨rfl, ⟨nd, rfl⟩⟩
 refine ⟨_, rfl, ?_⟩
 refine hK.out _ _ ⟨cT al 0, cT al 1⟩ (fun hHeld => ?_)
 clear hK K
 refine mN 5 ?_
 refine oT 5 (bA 8 63) HT_.out fun K hK => ?_
 refine gS Tryz.func9 #[.string a0_1] ?_
 with_reducible refine (graftwoodlaw01_Few.calls a0_1 az _ A3.out).mono ?_
 rintro e w' ⟨rfl, ⟨nd, rfl⟩⟩
 refine ⟨_, rfl, ?_⟩
 refine hK.out _ _ ⟨cT al 0, cT al 1⟩ (fun hHeld => ?_)
 clear hK K
 refine mN 8 ?_
 refine pT 6 9 (bA 8 127) HT_.out ?_
 refine oT 7 (bA 8 255) HT_.out fun K hK => ?_
 obtain ⟨hs7, cX⟩ := bxA av
 have cB := ak.out
 have cC := ax.out
 have hs8 : w6.cell? ⟨aw, 1, none⟩ = some (.string (⟨#[]⟩ : ByteArray)) := cT av 1
 have cY := blk_frozen av.out 1
 have cD := ak.out
 have cE := ax.out
 refine skip_ (w1 := ?_) (by rfl) rfl ?_ ?_
 rotate_left
 ·go_simp
  rfl
 refine hK.out _ _ kCl (fun hHeld => ?_)
 clear hK K
 refine done_ (done_of HT_.out rfK) ?_
 try go_wp2
 refine bodyPost_ret (results_cell_row rfl _ _ aw 55 #[.string ay, .string az] (0, 0) _ rfl kBk Tryz.underlying55 rfl rfK) rfl ?_
 exact ⟨rfF, eTx HB.out⟩

end Go.Proofs.YtknmfmedklfepaaGreatDoor.P
