-- half the indentation
import Derived.Test.YtknmfmedklfepaaGreatDoorSqz
import Derived.Test.YtknmfmedklfepaaGreatDoorP0
import Derived.Test.YtknmfmedklfepaaGreatDoorP13
import Derived.Test.YtknmfmedklfepaaGreatDoorP17
namespace Go.Proofs.YtknmfmedklfepaaGreatDoor.P
open Go.RowKit Go.Proofs.YtknmfmedklfepaaGreatDoorW.PrintWords Go.Proofs.YtknmfmedklfepaaGreatDoorW.PrintLast Go.Proofs.YtknmfmedklfepaaGreatDoorW.PrintMore
attribute [local go_sem] max2_int min2_int max_two min_two max_three min_three max_four min_four
set_option linter.unusedVariables false
set_option linter.unusedSimpArgs false
set_option maxHeartbeats 8000000
set_option maxRecDepth 100000

/-! ### number_Cmp: function 94 -/
def number_Cmp.j0 : Nat → ByteArray → ByteArray → Bool → Option (Int × Int)
 | 0, _, _, _ => none
 | k + 1, x0, x1, x13 => if x13 = true then (some (0, 1)) else ((cmp_Compare_int.f (x0.size : Int) (x1.size : Int)).bind fun ad => ((octet_Cmp.f x0 x1).bind fun ac => ((cmp_Or_int.f k (([ad, ac] : List Int))).bind fun ae => (some (ae, 0)))))
def number_Cmp.f (k : Nat) (a0 : ByteArray) (a1 : ByteArray) : Option (Int × Int) := (number_May.f a0).bind fun ak => (if ak = true then ((number_May.f a1).bind fun af => (number_Cmp.j0 k a0 a1 (!af))) else (number_Cmp.j0 k a0 a1 true))
theorem number_Cmp.mono_l : ∀ k, (∀ y0 y1 y2, LeO (number_Cmp.j0 k y0 y1 y2) (number_Cmp.j0 (k + 1) y0 y1 y2))
 | 0 => fun _ _ _ r h => by simp [number_Cmp.j0] at h
 | k + 1 => by
  have ih0 := number_Cmp.mono_l k
  ·intro y0 y1 y2
   unfold number_Cmp.j0
   repeat' first | (with_reducible first | apply ih0 | apply cmp_Or_int.mono | apply LeO.refl | apply LeO.none | apply LeO.ite | refine LeO.bind ?_ (fun _ => ?_)) | apply ih0 | apply cmp_Or_int.mono | exact LeO.none _ | refine LeO.ite ?_ ?_ | refine LeO.bind ?_ (fun _ => ?_)
theorem number_Cmp.mono : ∀ a0 a1 k, LeO (number_Cmp.f k a0 a1) (number_Cmp.f (k + 1) a0 a1) := by
 intro a0 a1 k
 have ih0 := number_Cmp.mono_l k
 unfold number_Cmp.f
 repeat' first | (with_reducible first | apply ih0 | apply cmp_Or_int.mono | apply LeO.refl | apply LeO.none | apply LeO.ite | refine LeO.bind ?_ (fun _ => ?_)) | apply ih0 | apply cmp_Or_int.mono | exact LeO.none _ | refine LeO.ite ?_ ?_ | refine LeO.bind ?_ (fun _ => ?_)
theorem number_Cmp.calls (k : Nat) (a0 : ByteArray) (a1 : ByteArray) (r1 : Int) (r2 : Int) (w : World) (h : number_Cmp.f k a0 a1 = some (r1, r2)) :
  Calls Tryz.prog 94 #[.string a0, .string a1] w fun e w' => e = .returned (.tuple #[.int .i64 r1, .int .i64 r2]) ∧ Below w.heap.size w w' := by
 have HB := am (Below.refl w.heap.size w)
 unfold number_Cmp.f at h; have H := h; clear h
 have HC3 := Aside0.mk H
 clear H
 go_enter Tryz.func94, Tryz.ntmps94
 go_upto_region 1 with (fail)
 go_cut [13] (fun v13 wc => ∃ (kq : Nat) (ai : Bool), v13 = .bool ai ∧ Aside0 (number_Cmp.j0 kq a0 a1 ai = some (r1, r2)) ∧ Aside0 (kq ≤ k) ∧ Aside0 (Below w.heap.size w wc))
 case first =>
  have H := HC3.out
  clear HC3
  replace H := bnd H; obtain ⟨ak, A4, H⟩ := H
  replace H := ifB H; rcases H with ⟨rfl, H⟩ | ⟨rfl, H⟩
  ·replace H := bnd H; obtain ⟨af, A6, H⟩ := H
   have H' := Aside0.mk H
   clear H
   go_wp2_with (first | ((with_reducible refine gtC 92 ?_); refine xCb 7 Tryz.func92 (number_May.calls a0 true _ A4.out) fun w7 hb => ?_; replace HB := am (sTx HB.out hb)) | (go_at_call 92; (with_reducible refine (number_May.calls a1 af _ A6.out).mono ?_); rintro e w8 ⟨rfl, hb⟩; replace HB := am (sTx HB.out hb)))
   go_meet
   case rel => exact ⟨_, (!af), rfG, H', ⟨rfO⟩, ⟨eTx HB.out⟩⟩
  ·have H' := Aside0.mk H
   clear H
   go_wp2_with (first | ((with_reducible refine gtC 92 ?_); refine xCb 7 Tryz.func92 (number_May.calls a0 false _ A4.out) fun w9 hb => ?_; replace HB := am (sTx HB.out hb)))
   go_meet
   case rel => exact ⟨_, (true), rfG, H', ⟨rfO⟩, ⟨eTx HB.out⟩⟩
 case rest =>
  clear HC3
  obtain ⟨kq, ai, rfl, HA, HJ2, HB⟩ := hcut
  cases kq with
  | zero => exact absurd HA.out (by simp [number_Cmp.j0])
  | succ kj2 =>
   have H := HA.out
   clear HA
   simp only [number_Cmp.j0] at H
   replace H := ifB H; rcases H with ⟨rfl, H⟩ | ⟨rfl, H⟩
   ·replace H := prB H; obtain ⟨rfl, rfl⟩ := H
    go_wp2
    go_ret2
    exact ⟨rfF, eTx HB.out⟩
   ·replace H := bnd H; obtain ⟨ad, A11, H⟩ := H
    replace H := bnd H; obtain ⟨ac, A12, H⟩ := H
    obtain ⟨ao, ah⟩ : ∃ y_ : List Int, y_ = (([ad, ac] : List Int)) := ⟨_, rfl⟩
    replace H : ((cmp_Or_int.f kj2 ao).bind fun ae => (some (ae, 0))) = some (r1, r2) := by first | (rw [ah]; with_reducible exact H) | (have H2_ := (Option.bind_some _ _).symm.trans H; rw [ah]; with_reducible exact H2_) | (have H2_ := (Option.bind_some _ _).symm.trans H; with_reducible exact H2_) | with_reducible exact H | (rw [ah]; exact H) | exact H
    have Ny181 := Aside0.mk ah
    clear ah
    replace H := bnd H; obtain ⟨ae, A13, H⟩ := H
    replace H := prB H; obtain ⟨rfl, rfl⟩ := H
    go_wp2_with (first | ((with_reducible refine gtC 68 ?_); refine xCz 18 Tryz.func68 (cmp_Compare_int.calls (a0.size : Int) (a1.size : Int) ad _ A11.out) fun nd => ?_) | ((with_reducible refine gtC 79 ?_); refine xCz 21 Tryz.func79 (octet_Cmp.calls a0 a1 ac _ A12.out) fun nd => ?_) | ((with_reducible refine gtD 22 ?_); refine Kd.R_lit (Kd.int .i64) _ 3 ?hg (N := 22) ?hd (xs := ([ad, ac] : List Int)) (inner := [.int .i64 ad, .int .i64 ac]) (ok := fun _ => True) (okp := fun _ => True) ?hr ?hp (fun _ hk => hk) trivial (Below.refl _ _) (Nat.le_refl _) (by simp) ?_; (case hd => rfl); (case hg => rfl); (case hr => first | (go_simp; done) | (go_simp; rfl)); (case hp => exact (Reps.one (show Kd.M (Kd.int .i64) _ _ _ ad [.int .i64 ad] from rfl) (Reps.one (show Kd.M (Kd.int .i64) _ _ _ ac [.int .i64 ac] from rfl) (Reps.none _ _)))); intro aB w14 ho15 hb hg_ hnew_; clear hg_ hnew_; (first | rw [← Ny181.out] at ho15 | (simp only [Int.reduceToNat] at ho15; rw [← Ny181.out] at ho15)); have an := am (Kd.R_lower ho15 (below_size (eTx HB.out))); replace HB := am (sTx HB.out hb); clear hb ho15; obtain ⟨ax, ay, az⟩ := Kd.R_slice an.out; subst az) | ((with_reducible refine gtC 66 ?_); refine xCz 23 Tryz.func66 (cmp_Or_int.calls kj2 _ _ ao ae _ (cW (Kd.R_reads' an.out).2.2) ((Kd.R_reads' an.out).2.1) A13.out) fun nd => ?_))
    go_ret2
    exact ⟨rfF, eTx HB.out⟩

/-! ### version_numbers: function 67 -/
def version_numbers.f (k : Nat) (a0 : ByteArray) (a1 : ByteArray) : Option (Int) := (number_Cmp.f k a0 a1).bind fun bt185 => (some bt185.1)
theorem version_numbers.mono : ∀ a0 a1 k, LeO (version_numbers.f k a0 a1) (version_numbers.f (k + 1) a0 a1) := by
 intro a0 a1 k
 unfold version_numbers.f
 repeat' first | (with_reducible first | apply number_Cmp.mono | apply LeO.refl | apply LeO.none | apply LeO.ite | refine LeO.bind ?_ (fun _ => ?_)) | apply number_Cmp.mono | exact LeO.none _ | refine LeO.ite ?_ ?_ | refine LeO.bind ?_ (fun _ => ?_)
theorem version_numbers.calls (k : Nat) (a0 : ByteArray) (a1 : ByteArray) (r : Int) (w : World) (h : version_numbers.f k a0 a1 = some r) :
  Calls Tryz.prog 67 #[.string a0, .string a1] w fun e w' => e = .returned (.int .i64 r) ∧ Below w.heap.size w w' := by
 have HB := am (Below.refl w.heap.size w)
 unfold version_numbers.f at h; have H := h; clear h
 replace H := bnd H; obtain ⟨⟨au, aA⟩, A3, H⟩ := H
 (try dsimp only at H)
 obtain rfl := smI H
 go_enter Tryz.func67, Tryz.ntmps67
 go_wp2_with (first | ((with_reducible refine gtC 94 ?_); refine xCb 10 Tryz.func94 (number_Cmp.calls k a0 a1 au aA _ A3.out) fun w4 hb => ?_; replace HB := am (sTx HB.out hb)))
 go_ret
 exact ⟨rfF, eTx HB.out⟩

/-! ### version_words: function 69 -/
def version_words.j0 : Nat → ByteArray → ByteArray → Bool → Bool → Bool → Option (Int)
 | 0, _, _, _, _, _ => none
 | k + 1, x0, x1, x5, x6, x11 => if x11 = true then ((version_numbers.f k x0 x1).bind fun al => (some al)) else (if x5 = true then (some (-1)) else (if x6 = true then (some 1) else ((octet_Cmp.f x0 x1).bind fun ag => (some ag))))
def version_words.f (k : Nat) (a0 : ByteArray) (a1 : ByteArray) : Option (Int) := (number_May.f a0).bind fun ab => ((number_May.f a1).bind fun aa => (if ab = true then (version_words.j0 k a0 a1 ab aa aa) else (version_words.j0 k a0 a1 ab aa false)))
theorem version_words.mono_l : ∀ k, (∀ y0 y1 y2 y3 y4, LeO (version_words.j0 k y0 y1 y2 y3 y4) (version_words.j0 (k + 1) y0 y1 y2 y3 y4))
 | 0 => fun _ _ _ _ _ r h => by simp [version_words.j0] at h
 | k + 1 => by
  have ih0 := version_words.mono_l k
  ·intro y0 y1 y2 y3 y4
   unfold version_words.j0
   repeat' first | (with_reducible first | apply ih0 | apply version_numbers.mono | apply LeO.refl | apply LeO.none | apply LeO.ite | refine LeO.bind ?_ (fun _ => ?_)) | apply ih0 | apply version_numbers.mono | exact LeO.none _ | refine LeO.ite ?_ ?_ | refine LeO.bind ?_ (fun _ => ?_)
theorem version_words.mono : ∀ a0 a1 k, LeO (version_words.f k a0 a1) (version_words.f (k + 1) a0 a1) := by
 intro a0 a1 k
 have ih0 := version_words.mono_l k
 unfold version_words.f
 repeat' first | (with_reducible first | apply ih0 | apply version_numbers.mono | apply LeO.refl | apply LeO.none | apply LeO.ite | refine LeO.bind ?_ (fun _ => ?_)) | apply ih0 | apply version_numbers.mono | exact LeO.none _ | refine LeO.ite ?_ ?_ | refine LeO.bind ?_ (fun _ => ?_)
theorem version_words.calls (k : Nat) (a0 : ByteArray) (a1 : ByteArray) (r : Int) (w : World) (h : version_words.f k a0 a1 = some r) :
  Calls Tryz.prog 69 #[.string a0, .string a1] w fun e w' => e = .returned (.int .i64 r) ∧ Below w.heap.size w w' := by
 have HB := am (Below.refl w.heap.size w)
 unfold version_words.f at h; have H := h; clear h
 replace H := bnd H; obtain ⟨ab, A3, H⟩ := H
 replace H := bnd H; obtain ⟨aa, A4, H⟩ := H
 have HC5 := Aside0.mk H
 clear H
 go_enter Tryz.func69, Tryz.ntmps69
 go_upto_region 2 with (first | ((with_reducible refine gtC 92 ?_); refine xCb 8 Tryz.func92 (number_May.calls a0 ab _ A3.out) fun w6 hb => ?_; replace HB := am (sTx HB.out hb)) | ((with_reducible refine gtC 92 ?_); refine xCb 10 Tryz.func92 (number_May.calls a1 aa _ A4.out) fun w7 hb => ?_; replace HB := am (sTx HB.out hb)))
 (try simp only [Act.put, List.setIfInBounds_toArray, List.set_cons_zero, List.set_cons_succ])
 go_cut [11] (fun v11 wc => ∃ (kq : Nat) (aj : Bool), v11 = .bool aj ∧ Aside0 (version_words.j0 kq a0 a1 ab aa aj = some r) ∧ Aside0 (kq ≤ k) ∧ Aside0 (Below w.heap.size w wc))
 case first =>
  have H := HC5.out
  clear HC5
  replace H := ifB H; rcases H with ⟨rfl, H⟩ | ⟨rfl, H⟩
  ·have H' := Aside0.mk H
   clear H
   go_wp2
   go_meet
   case rel => exact ⟨_, (aa), rfG, H', ⟨rfO⟩, ⟨eTx HB.out⟩⟩
  ·have H' := Aside0.mk H
   clear H
   go_wp2
   go_meet
   case rel => exact ⟨_, (false), rfG, H', ⟨rfO⟩, ⟨eTx HB.out⟩⟩
 case rest =>
  clear HC5
  obtain ⟨kq, aj, rfl, HA, HJ4, HB⟩ := hcut
  cases kq with
  | zero => exact absurd HA.out (by simp [version_words.j0])
  | succ kj4 =>
   have H := HA.out
   clear HA
   simp only [version_words.j0] at H
   replace H := ifB H; rcases H with ⟨rfl, H⟩ | ⟨rfl, H⟩
   ·replace H := bnd H; obtain ⟨al, A10, H⟩ := H
    obtain rfl := smI H
    go_wp2_with (first | ((with_reducible refine gtC 67 ?_); refine xCb 18 Tryz.func67 (version_numbers.calls kj4 a0 a1 al _ A10.out) fun w11 hb => ?_; replace HB := am (sTx HB.out hb)))
    go_ret
    exact ⟨rfF, eTx HB.out⟩
   ·replace H := ifB H; rcases H with ⟨rfl, H⟩ | ⟨rfl, H⟩
    ·obtain rfl := smI H
     go_wp2
     go_ret
     exact ⟨rfF, eTx HB.out⟩
    ·replace H := ifB H; rcases H with ⟨rfl, H⟩ | ⟨rfl, H⟩
     ·obtain rfl := smI H
      go_wp2
      go_ret
      exact ⟨rfF, eTx HB.out⟩
     ·replace H := bnd H; obtain ⟨ag, A14, H⟩ := H
      obtain rfl := smI H
      go_wp2_with (first | ((with_reducible refine gtC 79 ?_); refine xCz 25 Tryz.func79 (octet_Cmp.calls a0 a1 ag _ A14.out) fun nd => ?_))
      go_ret
      exact ⟨rfF, eTx HB.out⟩

end Go.Proofs.YtknmfmedklfepaaGreatDoor.P
