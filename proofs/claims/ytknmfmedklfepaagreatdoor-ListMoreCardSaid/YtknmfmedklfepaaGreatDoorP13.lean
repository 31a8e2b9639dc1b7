-- half the indentation
import Derived.Test.YtknmfmedklfepaaGreatDoorSqz
import Derived.Test.YtknmfmedklfepaaGreatDoorP0
import Derived.Test.YtknmfmedklfepaaGreatDoorP12
namespace Go.Proofs.YtknmfmedklfepaaGreatDoor.P
open Go.RowKit Go.Proofs.YtknmfmedklfepaaGreatDoorW.PrintWords Go.Proofs.YtknmfmedklfepaaGreatDoorW.PrintLast Go.Proofs.YtknmfmedklfepaaGreatDoorW.PrintMore
attribute [local go_sem] max2_int min2_int max_two min_two max_three min_three max_four min_four
set_option linter.unusedVariables false
set_option linter.unusedSimpArgs false
set_option maxHeartbeats 8000000
set_option maxRecDepth 100000

/-! ### number_May: function 92 -/
def number_May.f (a0 : ByteArray) : Option (Bool) := if a0.toList = ([] : List UInt8) then (some false) else ((octet_All.f a0 (([1] : List Int))).bind fun ab => (if ab = true then (if 0 < (a0.size : Int) then (if (bt a0 0) = 48 then (some ((a0.size : Int) == 1)) else (some true)) else (none)) else (some false)))
theorem number_May.calls (a0 : ByteArray) (r : Bool) (w : World) (h : number_May.f a0 = some r) :
  Calls Tryz.prog 92 #[.string a0] w fun e w' => e = .returned (.bool r) ∧ Below w.heap.size w w' := by
 have HB := am (Below.refl w.heap.size w)
 unfold number_May.f at h; have H := h; clear h
 replace H := ifP H; rcases H with ⟨c2, H⟩ | ⟨c2, H⟩
 ·have ai := beq_iff_eq.mpr c2
  have aj := bne_eq_false_iff_eq.mpr c2
  clear c2
  obtain rfl := smI H
  go_enter Tryz.func92, Tryz.ntmps92
  go_wp2
  go_ret
  exact ⟨rfF, eTx HB.out⟩
 ·have ai := beq_eq_false_iff_ne.mpr c2
  have aj := bne_iff_ne.mpr c2
  obtain ⟨ae, ac⟩ : ∃ y_ : List Int, y_ = (([1] : List Int)) := ⟨_, rfl⟩
  replace H : ((octet_All.f a0 ae).bind fun ab => (if ab = true then (if 0 < (a0.size : Int) then (if (bt a0 0) = 48 then (some ((a0.size : Int) == 1)) else (some true)) else (none)) else (some false))) = some r := by first | (rw [ac]; with_reducible exact H) | (have H2_ := (Option.bind_some _ _).symm.trans H; rw [ac]; with_reducible exact H2_) | (have H2_ := (Option.bind_some _ _).symm.trans H; with_reducible exact H2_) | with_reducible exact H | (rw [ac]; exact H) | exact H
  have Ny133 := Aside0.mk ac
  clear ac
  replace H := bnd H; obtain ⟨ab, A3, H⟩ := H
  replace H := ifB H; rcases H with ⟨rfl, H⟩ | ⟨rfl, H⟩
  ·replace H := ifN H; obtain ⟨c5, H⟩ := H
   have ag := decide_eq_true c5
   have ar : decide (0 < a0.size) = true := decide_eq_true (by omega)
   clear c5
   replace H := ifP H; rcases H with ⟨c7, H⟩ | ⟨c7, H⟩
   ·have ak := beq_iff_eq.mpr c7
    have al := bne_eq_false_iff_eq.mpr c7
    clear c7
    obtain rfl := smI H
    go_enter Tryz.func92, Tryz.ntmps92
    go_wp2_with (first | ((with_reducible refine gtD 7 ?_); (try (refine gate_guard (by rfl) ?_; dsimp only)); refine Kd.R_lit (Kd.int .i64) _ 3 ?hg (N := 7) ?hd (xs := ([1] : List Int)) (inner := [.int .i64 1]) (ok := fun _ => True) (okp := fun _ => True) ?hr ?hp (fun _ hk => hk) trivial (Below.refl _ _) (Nat.le_refl _) (by simp) ?_; (case hd => rfl); (case hg => rfl); (case hr => first | (go_simp; done) | (go_simp; rfl)); (case hp => exact (Reps.one (show Kd.M (Kd.int .i64) _ _ _ 1 [.int .i64 1] from rfl) (Reps.none _ _))); intro ah w8 ho9 hb hg_ hnew_; clear hg_ hnew_; (first | rw [← Ny133.out] at ho9 | (simp only [Int.reduceToNat] at ho9; rw [← Ny133.out] at ho9)); have aa := am (Kd.R_lower ho9 (below_size (eTx HB.out))); replace HB := am (sTx HB.out hb); clear hb ho9; obtain ⟨au, av, an⟩ := Kd.R_slice aa.out; subst an) | (go_at_call 109; (with_reducible refine (octet_All.calls a0 _ _ ae true _ (cW (Kd.R_reads' aa.out).2.2) ((Kd.R_reads' aa.out).2.1) A3.out).mono ?_); rintro e w11 ⟨rfl, hb⟩; replace aa := am (rB aa.out hb); replace HB := am (sTx HB.out hb); have p6 : 0 ≤ (0 : Int) := (by omega); have q6 : 0 < a0.size := (by have : (0 : Int) < (a0.size : Int) := of_decide_eq_true rfA; omega); have hx6 : ∀ h : 0 < a0.size, ((a0[0]'h).toNat : Int) = bt a0 0 := bt_at a0 0; clear p6; have qi6 : (0 < (a0.size : Int)) = True := eq_true (of_decide_eq_true rfA); replace q6 := eq_true q6))
    go_ret
    exact ⟨rfF, eTx HB.out⟩
   ·have ak := beq_eq_false_iff_ne.mpr c7
    have al := bne_iff_ne.mpr c7
    obtain rfl := smI H
    go_enter Tryz.func92, Tryz.ntmps92
    go_wp2_with (first | ((with_reducible refine gtD 7 ?_); (try (refine gate_guard (by rfl) ?_; dsimp only)); refine Kd.R_lit (Kd.int .i64) _ 3 ?hg (N := 7) ?hd (xs := ([1] : List Int)) (inner := [.int .i64 1]) (ok := fun _ => True) (okp := fun _ => True) ?hr ?hp (fun _ hk => hk) trivial (Below.refl _ _) (Nat.le_refl _) (by simp) ?_; (case hd => rfl); (case hg => rfl); (case hr => first | (go_simp; done) | (go_simp; rfl)); (case hp => exact (Reps.one (show Kd.M (Kd.int .i64) _ _ _ 1 [.int .i64 1] from rfl) (Reps.none _ _))); intro ah w12 ho13 hb hg_ hnew_; clear hg_ hnew_; (first | rw [← Ny133.out] at ho13 | (simp only [Int.reduceToNat] at ho13; rw [← Ny133.out] at ho13)); have aa := am (Kd.R_lower ho13 (below_size (eTx HB.out))); replace HB := am (sTx HB.out hb); clear hb ho13; obtain ⟨aw, ax, ao⟩ := Kd.R_slice aa.out; subst ao) | (go_at_call 109; (with_reducible refine (octet_All.calls a0 _ _ ae true _ (cW (Kd.R_reads' aa.out).2.2) ((Kd.R_reads' aa.out).2.1) A3.out).mono ?_); rintro e w15 ⟨rfl, hb⟩; replace aa := am (rB aa.out hb); replace HB := am (sTx HB.out hb); have p6 : 0 ≤ (0 : Int) := (by omega); have q6 : 0 < a0.size := (by have : (0 : Int) < (a0.size : Int) := of_decide_eq_true rfA; omega); have hx6 : ∀ h : 0 < a0.size, ((a0[0]'h).toNat : Int) = bt a0 0 := bt_at a0 0; clear p6; have qi6 : (0 < (a0.size : Int)) = True := eq_true (of_decide_eq_true rfA); replace q6 := eq_true q6))
    go_ret
    exact ⟨rfF, eTx HB.out⟩
  ·obtain rfl := smI H
   go_enter Tryz.func92, Tryz.ntmps92
   go_wp2_with (first | ((with_reducible refine gtD 7 ?_); (try (refine gate_guard (by rfl) ?_; dsimp only)); refine Kd.R_lit (Kd.int .i64) _ 3 ?hg (N := 7) ?hd (xs := ([1] : List Int)) (inner := [.int .i64 1]) (ok := fun _ => True) (okp := fun _ => True) ?hr ?hp (fun _ hk => hk) trivial (Below.refl _ _) (Nat.le_refl _) (by simp) ?_; (case hd => rfl); (case hg => rfl); (case hr => first | (go_simp; done) | (go_simp; rfl)); (case hp => exact (Reps.one (show Kd.M (Kd.int .i64) _ _ _ 1 [.int .i64 1] from rfl) (Reps.none _ _))); intro ah w16 ho17 hb hg_ hnew_; clear hg_ hnew_; (first | rw [← Ny133.out] at ho17 | (simp only [Int.reduceToNat] at ho17; rw [← Ny133.out] at ho17)); have aa := am (Kd.R_lower ho17 (below_size (eTx HB.out))); replace HB := am (sTx HB.out hb); clear hb ho17; obtain ⟨ay, az, ap⟩ := Kd.R_slice aa.out; subst ap) | (go_at_call 109; (with_reducible refine (octet_All.calls a0 _ _ ae false _ (cW (Kd.R_reads' aa.out).2.2) ((Kd.R_reads' aa.out).2.1) A3.out).mono ?_); rintro e w19 ⟨rfl, hb⟩; replace aa := am (rB aa.out hb); replace HB := am (sTx HB.out hb)))
   go_ret
   exact ⟨rfF, eTx HB.out⟩

/-! ### utf8_ValidRune: function 154 -/
def utf8_ValidRune.j0 : Nat → Int → Bool → Option (Bool)
 | 0, _, _ => none
 | k + 1, x0, x3 => if x3 = true then (some true) else (if 57343 < x0 then (if x0 ≤ 1114111 then (some true) else (some false)) else (some false))
def utf8_ValidRune.f (k : Nat) (a0 : Int) : Option (Bool) := if 0 ≤ a0 then (utf8_ValidRune.j0 k a0 (decide (a0 < 55296))) else (utf8_ValidRune.j0 k a0 false)
theorem utf8_ValidRune.mono_l : ∀ k, (∀ y0 y1, LeO (utf8_ValidRune.j0 k y0 y1) (utf8_ValidRune.j0 (k + 1) y0 y1))
 | 0 => fun _ _ r h => by simp [utf8_ValidRune.j0] at h
 | k + 1 => by
  have ih0 := utf8_ValidRune.mono_l k
  ·intro y0 y1
   unfold utf8_ValidRune.j0
   repeat' first | (with_reducible first | apply ih0 | apply LeO.refl | apply LeO.none | apply LeO.ite | refine LeO.bind ?_ (fun _ => ?_)) | apply ih0 | exact LeO.none _ | refine LeO.ite ?_ ?_ | refine LeO.bind ?_ (fun _ => ?_)
theorem utf8_ValidRune.mono : ∀ a0 k, LeO (utf8_ValidRune.f k a0) (utf8_ValidRune.f (k + 1) a0) := by
 intro a0 k
 have ih0 := utf8_ValidRune.mono_l k
 unfold utf8_ValidRune.f
 repeat' first | (with_reducible first | apply ih0 | apply LeO.refl | apply LeO.none | apply LeO.ite | refine LeO.bind ?_ (fun _ => ?_)) | apply ih0 | exact LeO.none _ | refine LeO.ite ?_ ?_ | refine LeO.bind ?_ (fun _ => ?_)
theorem utf8_ValidRune.calls (k : Nat) (a0 : Int) (r : Bool) (w : World) (h : utf8_ValidRune.f k a0 = some r) :
  Calls Tryz.prog 154 #[.int .i32 a0] w fun e w' => e = .returned (.bool r) ∧ Drawn0 w w' := by
 unfold utf8_ValidRune.f at h; have H := h; clear h
 have HC2 := Aside0.mk H
 clear H
 go_enter Tryz.func154, Tryz.ntmps154
 go_upto_region 1 with (fail)
 go_cut [3] (fun v3 wc => ∃ (kq : Nat) (af : Bool), v3 = .bool af ∧ Aside0 (utf8_ValidRune.j0 kq a0 af = some r) ∧ Aside0 (kq ≤ k) ∧ Drawn0 w wc)
 case first =>
  have H := HC2.out
  clear HC2
  replace H := ifP H; rcases H with ⟨c3, H⟩ | ⟨c3, H⟩
  ·have ad := decide_eq_true c3
   clear c3
   (first | rw [ad] | (simp only [i64_w, i32_w]; rw [ad]) | skip)
   have H' := Aside0.mk H
   clear H
   go_wp2
   go_meet
   case rel => exact ⟨_, (decide (a0 < 55296)), rfG, H', ⟨rfO⟩, rfD⟩
  ·have ad := decide_eq_false c3
   clear c3
   (first | rw [ad] | (simp only [i64_w, i32_w]; rw [ad]) | skip)
   have H' := Aside0.mk H
   clear H
   go_wp2
   go_meet
   case rel => exact ⟨_, (false), rfG, H', ⟨rfO⟩, rfD⟩
 case rest =>
  clear HC2
  obtain ⟨kq, af, rfl, HA, HJ1, ⟨mc1, rfl⟩⟩ := hcut
  cases kq with
  | zero => exact absurd HA.out (by simp [utf8_ValidRune.j0])
  | succ kj1 =>
   have H := HA.out
   clear HA
   simp only [utf8_ValidRune.j0] at H
   replace H := ifB H; rcases H with ⟨rfl, H⟩ | ⟨rfl, H⟩
   ·obtain rfl := smI H
    go_wp2
    go_ret
    exact ⟨rfG, rfD⟩
   ·replace H := ifP H; rcases H with ⟨c5, H⟩ | ⟨c5, H⟩
    ·have ag := decide_eq_true c5
     clear c5
     replace H := ifP H; rcases H with ⟨c6, H⟩ | ⟨c6, H⟩
     ·have aq := decide_eq_true c6
      clear c6
      obtain rfl := smI H
      go_wp2
      go_ret
      exact ⟨rfG, rfD⟩
     ·have aq := decide_eq_false c6
      clear c6
      obtain rfl := smI H
      go_wp2
      go_ret
      exact ⟨rfG, rfD⟩
    ·have ag := decide_eq_false c5
     clear c5
     obtain rfl := smI H
     go_wp2
     go_ret
     exact ⟨rfG, rfD⟩

end Go.Proofs.YtknmfmedklfepaaGreatDoor.P
