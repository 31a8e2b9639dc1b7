-- half the indentation
import Derived.Test.YtknmfmedklfepaaDoorSqz
import Derived.Test.YtknmfmedklfepaaDoorP0
import Derived.Test.YtknmfmedklfepaaDoorP13
import Derived.Test.YtknmfmedklfepaaDoorP17
namespace Go.Proofs.YtknmfmedklfepaaDoor.P
open Go.RowKit Go.Proofs.YtknmfmedklfepaaDoorW.PrintWords Go.Proofs.YtknmfmedklfepaaDoorW.PrintLast Go.Proofs.YtknmfmedklfepaaDoorW.PrintMore
attribute [local go_sem] max2_int min2_int max_two min_two max_three min_three max_four min_four
set_option linter.unusedVariables false
set_option linter.unusedSimpArgs false
set_option maxHeartbeats 8000000
set_option maxRecDepth 100000

/-! ### cmp_Compare_string: function 69 -/
def cmp_Compare_string.f (a0 : ByteArray) (a1 : ByteArray) : Option (Int) := (cmp_isNaN_string.f a0).bind fun aj => ((cmp_isNaN_string.f a1).bind fun ac => (if aj = true then (if ac = true then (some 0) else (some (-1))) else (if ac = true then (some 1) else (if (Op.bytesLess a0.toList a1.toList) = true then (some (-1)) else (if (Op.bytesLess a1.toList a0.toList) = true then (some 1) else (some 0))))))
theorem cmp_Compare_string.calls (a0 : ByteArray) (a1 : ByteArray) (r : Int) (w : World) (h : cmp_Compare_string.f a0 a1 = some r) :
  Calls Tryd.prog 69 #[.string a0, .string a1] w fun e w' => e = .returned (.int .i64 r) ∧ Drawn0 w w' := by
 unfold cmp_Compare_string.f at h; have H := h; clear h
 replace H := bnd H; obtain ⟨aj, A3, H⟩ := H
 replace H := bnd H; obtain ⟨ac, A4, H⟩ := H
 replace H := ifB H; rcases H with ⟨rfl, H⟩ | ⟨rfl, H⟩
 ·replace H := ifB H; rcases H with ⟨rfl, H⟩ | ⟨rfl, H⟩
  ·obtain rfl := smI H
   go_enter Tryd.func69, Tryd.ntmps69
   go_wp2_with (first | ((with_reducible refine gtC 79 ?_); refine xCz 8 Tryd.func79 (cmp_isNaN_string.calls a0 true _ A3.out) fun nd => ?_) | ((with_reducible refine gtC 79 ?_); refine xCz 10 Tryd.func79 (cmp_isNaN_string.calls a1 true _ A4.out) fun nd => ?_))
   go_ret
   exact ⟨rfG, rfD⟩
  ·obtain rfl := smI H
   go_enter Tryd.func69, Tryd.ntmps69
   go_wp2_with (first | ((with_reducible refine gtC 79 ?_); refine xCz 8 Tryd.func79 (cmp_isNaN_string.calls a0 true _ A3.out) fun nd => ?_) | ((with_reducible refine gtC 79 ?_); refine xCz 10 Tryd.func79 (cmp_isNaN_string.calls a1 false _ A4.out) fun nd => ?_))
   go_ret
   exact ⟨rfG, rfD⟩
 ·replace H := ifB H; rcases H with ⟨rfl, H⟩ | ⟨rfl, H⟩
  ·obtain rfl := smI H
   go_enter Tryd.func69, Tryd.ntmps69
   go_wp2_with (first | ((with_reducible refine gtC 79 ?_); refine xCz 8 Tryd.func79 (cmp_isNaN_string.calls a0 false _ A3.out) fun nd => ?_) | ((with_reducible refine gtC 79 ?_); refine xCz 10 Tryd.func79 (cmp_isNaN_string.calls a1 true _ A4.out) fun nd => ?_))
   go_ret
   exact ⟨rfG, rfD⟩
  ·replace H := ifP H; rcases H with ⟨c8, H⟩ | ⟨c8, H⟩
   ·have aA := c8
    clear c8
    obtain rfl := smI H
    go_enter Tryd.func69, Tryd.ntmps69
    go_wp2_with (first | ((with_reducible refine gtC 79 ?_); refine xCz 8 Tryd.func79 (cmp_isNaN_string.calls a0 false _ A3.out) fun nd => ?_) | ((with_reducible refine gtC 79 ?_); refine xCz 10 Tryd.func79 (cmp_isNaN_string.calls a1 false _ A4.out) fun nd => ?_))
    go_ret
    exact ⟨rfG, rfD⟩
   ·have aA := Bool.eq_false_iff.mpr c8
    clear c8
    replace H := ifP H; rcases H with ⟨c9, H⟩ | ⟨c9, H⟩
    ·have aB := c9
     clear c9
     obtain rfl := smI H
     go_enter Tryd.func69, Tryd.ntmps69
     go_wp2_with (first | ((with_reducible refine gtC 79 ?_); refine xCz 8 Tryd.func79 (cmp_isNaN_string.calls a0 false _ A3.out) fun nd => ?_) | ((with_reducible refine gtC 79 ?_); refine xCz 10 Tryd.func79 (cmp_isNaN_string.calls a1 false _ A4.out) fun nd => ?_))
     go_ret
     exact ⟨rfG, rfD⟩
    ·have aB := Bool.eq_false_iff.mpr c9
     clear c9
     obtain rfl := smI H
     go_enter Tryd.func69, Tryd.ntmps69
     go_wp2_with (first | ((with_reducible refine gtC 79 ?_); refine xCz 8 Tryd.func79 (cmp_isNaN_string.calls a0 false _ A3.out) fun nd => ?_) | ((with_reducible refine gtC 79 ?_); refine xCz 10 Tryd.func79 (cmp_isNaN_string.calls a1 false _ A4.out) fun nd => ?_))
     go_ret
     exact ⟨rfG, rfD⟩

/-! ### octet_Cmp: function 46 -/
def octet_Cmp.f (a0 : ByteArray) (a1 : ByteArray) : Option (Int) := (cmp_Compare_string.f a0 a1).bind fun an => (some an)
theorem octet_Cmp.calls (a0 : ByteArray) (a1 : ByteArray) (r : Int) (w : World) (h : octet_Cmp.f a0 a1 = some r) :
  Calls Tryd.prog 46 #[.string a0, .string a1] w fun e w' => e = .returned (.int .i64 r) ∧ Drawn0 w w' := by
 unfold octet_Cmp.f at h; have H := h; clear h
 replace H := bnd H; obtain ⟨an, A3, H⟩ := H
 obtain rfl := smI H
 go_enter Tryd.func46, Tryd.ntmps46
 go_wp2_with (first | ((with_reducible refine gtC 69 ?_); refine xCz 7 Tryd.func69 (cmp_Compare_string.calls a0 a1 an _ A3.out) fun nd => ?_))
 go_ret
 exact ⟨rfG, rfD⟩

/-! ### number_Cmp: function 51 -/
def number_Cmp.j0 : Nat → ByteArray → ByteArray → Bool → Option (Int × Int)
 | 0, _, _, _ => none
 | k + 1, x0, x1, x13 => if x13 = true then (some (0, 1)) else ((cmp_Compare_int.f (x0.size : Int) (x1.size : Int)).bind fun ae => ((octet_Cmp.f x0 x1).bind fun ad => ((cmp_Or_int.f k (([ae, ad] : List Int))).bind fun af => (some (af, 0)))))
def number_Cmp.f (k : Nat) (a0 : ByteArray) (a1 : ByteArray) : Option (Int × Int) := (number_May.f a0).bind fun ao => (if ao = true then ((number_May.f a1).bind fun ag => (number_Cmp.j0 k a0 a1 (!ag))) else (number_Cmp.j0 k a0 a1 true))
theorem number_Cmp.mono_l : ∀ k, (∀ y0 y1 y2, LeO (number_Cmp.j0 k y0 y1 y2) (number_Cmp.j0 (k + 1) y0 y1 y2))
 | 0 => fun _ _ _ r h => by simp [number_Cmp.j0] at h
 | k + 1 => by
  have ih0 := number_Cmp.mono_l k
  ·intro y0 y1 y2
   unfold number_Cmp.j0
   repeat' first | (with_reducible first | apply ih0 | apply cmp_Or_int.mono | apply LeO.refl | apply LeO.none | apply LeO.ite | refine LeO.bind ?_ (fun _ => ?_)) | apply ih0 | apply cmp_Or_int.mono | exact LeO.none _ | refine LeO.ite ?_ ?_ | refine LeO.bind ?_ (fun _ => ?_)
theorem number_Cmp.mono : ∀ a0 a1 k, LeO (number_Cmp.f k a0 a1) (number_Cmp.f (k + 1) a0 a1) := by
 intro a0 a1 k
 have ih0 := number_Cmp.mono_l k
 unfold number_Cmp.f
 repeat' first | (with_reducible first | apply ih0 | apply cmp_Or_int.mono | apply LeO.refl | apply LeO.none | apply LeO.ite | refine LeO.bind ?_ (fun _ => ?_)) | apply ih0 | apply cmp_Or_int.mono | exact LeO.none _ | refine LeO.ite ?_ ?_ | refine LeO.bind ?_ (fun _ => ?_)
theorem number_Cmp.calls (k : Nat) (a0 : ByteArray) (a1 : ByteArray) (r1 : Int) (r2 : Int) (w : World) (h : number_Cmp.f k a0 a1 = some (r1, r2)) :
  Calls Tryd.prog 51 #[.string a0, .string a1] w fun e w' => e = .returned (.tuple #[.int .i64 r1, .int .i64 r2]) ∧ Below w.heap.size w w' := by
 have HB := am (Below.refl w.heap.size w)
 unfold number_Cmp.f at h; have H := h; clear h
 have HC3 := Aside0.mk H
 clear H
 go_enter Tryd.func51, Tryd.ntmps51
 go_upto_region 1 with (fail)
 go_cut [13] (fun v13 wc => ∃ (kq : Nat) (ak : Bool), v13 = .bool ak ∧ Aside0 (number_Cmp.j0 kq a0 a1 ak = some (r1, r2)) ∧ Aside0 (kq ≤ k) ∧ Aside0 (Below w.heap.size w wc))
 case first =>
  have H := HC3.out
  clear HC3
  replace H := bnd H; obtain ⟨ao, A4, H⟩ := H
  replace H := ifB H; rcases H with ⟨rfl, H⟩ | ⟨rfl, H⟩
  ·replace H := bnd H; obtain ⟨ag, A6, H⟩ := H
   have H' := Aside0.mk H
   clear H
   go_wp2_with (first | ((with_reducible refine gtC 49 ?_); refine xCb 7 Tryd.func49 (number_May.calls a0 true _ A4.out) fun w7 hb => ?_; replace HB := am (sTx HB.out hb)) | (go_at_call 49; (with_reducible refine (number_May.calls a1 ag _ A6.out).mono ?_); rintro e w8 ⟨rfl, hb⟩; replace HB := am (sTx HB.out hb)))
   go_meet
   case rel => exact ⟨_, (!ag), rfG, H', ⟨rfO⟩, ⟨eTx HB.out⟩⟩
  ·have H' := Aside0.mk H
   clear H
   go_wp2_with (first | ((with_reducible refine gtC 49 ?_); refine xCb 7 Tryd.func49 (number_May.calls a0 false _ A4.out) fun w9 hb => ?_; replace HB := am (sTx HB.out hb)))
   go_meet
   case rel => exact ⟨_, (true), rfG, H', ⟨rfO⟩, ⟨eTx HB.out⟩⟩
 case rest =>
  clear HC3
  obtain ⟨kq, ak, rfl, HA, HJ2, HB⟩ := hcut
  cases kq with
  | zero => exact absurd HA.out (by simp [number_Cmp.j0])
  | succ kj2 =>
   have H := HA.out
   clear HA
   simp only [number_Cmp.j0] at H
   replace H := ifB H; rcases H with ⟨rfl, H⟩ | ⟨rfl, H⟩
   ·replace H := prB H; obtain ⟨rfl, rfl⟩ := H
    go_wp2
    go_ret2
    exact ⟨rfF, eTx HB.out⟩
   ·replace H := bnd H; obtain ⟨ae, A11, H⟩ := H
    replace H := bnd H; obtain ⟨ad, A12, H⟩ := H
    obtain ⟨ar, ai⟩ : ∃ y_ : List Int, y_ = (([ae, ad] : List Int)) := ⟨_, rfl⟩
    replace H : ((cmp_Or_int.f kj2 ar).bind fun af => (some (af, 0))) = some (r1, r2) := by first | (rw [ai]; with_reducible exact H) | (have H2_ := (Option.bind_some _ _).symm.trans H; rw [ai]; with_reducible exact H2_) | (have H2_ := (Option.bind_some _ _).symm.trans H; with_reducible exact H2_) | with_reducible exact H | (rw [ai]; exact H) | exact H
    have Ny186 := Aside0.mk ai
    clear ai
    replace H := bnd H; obtain ⟨af, A13, H⟩ := H
    replace H := prB H; obtain ⟨rfl, rfl⟩ := H
    go_wp2_with (first | ((with_reducible refine gtC 37 ?_); refine xCz 18 Tryd.func37 (cmp_Compare_int.calls (a0.size : Int) (a1.size : Int) ae _ A11.out) fun nd => ?_) | ((with_reducible refine gtC 46 ?_); refine xCz 21 Tryd.func46 (octet_Cmp.calls a0 a1 ad _ A12.out) fun nd => ?_) | ((with_reducible refine gtD 22 ?_); refine Kd.R_lit (Kd.int .i64) _ 3 ?hg (N := 22) ?hd (xs := ([ae, ad] : List Int)) (inner := [.int .i64 ae, .int .i64 ad]) (ok := fun _ => True) (okp := fun _ => True) ?hr ?hp (fun _ hk => hk) trivial (Below.refl _ _) (Nat.le_refl _) (by simp) ?_; (case hd => rfl); (case hg => rfl); (case hr => first | (go_simp; done) | (go_simp; rfl)); (case hp => exact (Reps.one (show Kd.M (Kd.int .i64) _ _ _ ae [.int .i64 ae] from rfl) (Reps.one (show Kd.M (Kd.int .i64) _ _ _ ad [.int .i64 ad] from rfl) (Reps.none _ _)))); intro aG w14 ho15 hb hg_ hnew_; clear hg_ hnew_; (first | rw [← Ny186.out] at ho15 | (simp only [Int.reduceToNat] at ho15; rw [← Ny186.out] at ho15)); have aq := am (Kd.R_lower ho15 (below_size (eTx HB.out))); replace HB := am (sTx HB.out hb); clear hb ho15; obtain ⟨aC, aD, aE⟩ := Kd.R_slice aq.out; subst aE) | ((with_reducible refine gtC 35 ?_); refine xCz 23 Tryd.func35 (cmp_Or_int.calls kj2 _ _ ar af _ (cW (Kd.R_reads' aq.out).2.2) ((Kd.R_reads' aq.out).2.1) A13.out) fun nd => ?_))
    go_ret2
    exact ⟨rfF, eTx HB.out⟩

/-! ### version_numbers: function 36 -/
def version_numbers.f (k : Nat) (a0 : ByteArray) (a1 : ByteArray) : Option (Int) := (number_Cmp.f k a0 a1).bind fun bt190 => (some bt190.1)
theorem version_numbers.mono : ∀ a0 a1 k, LeO (version_numbers.f k a0 a1) (version_numbers.f (k + 1) a0 a1) := by
 intro a0 a1 k
 unfold version_numbers.f
 repeat' first | (with_reducible first | apply number_Cmp.mono | apply LeO.refl | apply LeO.none | apply LeO.ite | refine LeO.bind ?_ (fun _ => ?_)) | apply number_Cmp.mono | exact LeO.none _ | refine LeO.ite ?_ ?_ | refine LeO.bind ?_ (fun _ => ?_)
theorem version_numbers.calls (k : Nat) (a0 : ByteArray) (a1 : ByteArray) (r : Int) (w : World) (h : version_numbers.f k a0 a1 = some r) :
  Calls Tryd.prog 36 #[.string a0, .string a1] w fun e w' => e = .returned (.int .i64 r) ∧ Below w.heap.size w w' := by
 have HB := am (Below.refl w.heap.size w)
 unfold version_numbers.f at h; have H := h; clear h
 replace H := bnd H; obtain ⟨⟨ax, aF⟩, A3, H⟩ := H
 (try dsimp only at H)
 obtain rfl := smI H
 go_enter Tryd.func36, Tryd.ntmps36
 go_wp2_with (first | ((with_reducible refine gtC 51 ?_); refine xCb 10 Tryd.func51 (number_Cmp.calls k a0 a1 ax aF _ A3.out) fun w4 hb => ?_; replace HB := am (sTx HB.out hb)))
 go_ret
 exact ⟨rfF, eTx HB.out⟩

/-! ### version_words: function 38 -/
def version_words.j0 : Nat → ByteArray → ByteArray → Bool → Bool → Bool → Option (Int)
 | 0, _, _, _, _, _ => none
 | k + 1, x0, x1, x5, x6, x11 => if x11 = true then ((version_numbers.f k x0 x1).bind fun ap => (some ap)) else (if x5 = true then (some (-1)) else (if x6 = true then (some 1) else ((octet_Cmp.f x0 x1).bind fun ah => (some ah))))
def version_words.f (k : Nat) (a0 : ByteArray) (a1 : ByteArray) : Option (Int) := (number_May.f a0).bind fun ab => ((number_May.f a1).bind fun aa => (if ab = true then (version_words.j0 k a0 a1 ab aa aa) else (version_words.j0 k a0 a1 ab aa false)))
theorem version_words.mono_l : ∀ k, (∀ y0 y1 y2 y3 y4, LeO (version_words.j0 k y0 y1 y2 y3 y4) (version_words.j0 (k + 1) y0 y1 y2 y3 y4))
 | 0 => fun _ _ _ _ _ r h => by simp [version_words.j0] at h
 | k + 1 => by
  have ih0 := version_words.mono_l k
  ·intro y0 y1 y2 y3 y4
   unfold version_words.j0
   repeat' first | (with_reducible first | apply ih0 | apply version_numbers.mono | apply LeO.refl | apply LeO.none | apply LeO.ite | refine LeO.bind ?_ (fun _ => ?_)) | apply ih0 | apply version_numbers.mono | exact LeO.none _ | refine LeO.ite ?_ ?_ | refine LeO.bind ?_ (fun _ => ?_)
theorem version_words.mono : ∀ a0 a1 k, LeO (version_words.f k a0 a1) (version_words.f (k + 1) a0 a1) := by
 intro a0 a1 k
 have ih0 := version_words.mono_l k
 unfold version_words.f
 repeat' first | (with_reducible first | apply ih0 | apply version_numbers.mono | apply LeO.refl | apply LeO.none | apply LeO.ite | refine LeO.bind ?_ (fun _ => ?_)) | apply ih0 | apply version_numbers.mono | exact LeO.none _ | refine LeO.ite ?_ ?_ | refine LeO.bind ?_ (fun _ => ?_)
theorem version_words.calls (k : Nat) (a0 : ByteArray) (a1 : ByteArray) (r : Int) (w : World) (h : version_words.f k a0 a1 = some r) :
  Calls Tryd.prog 38 #[.string a0, .string a1] w fun e w' => e = .returned (.int .i64 r) ∧ Below w.heap.size w w' := by
 have HB := am (Below.refl w.heap.size w)
 unfold version_words.f at h; have H := h; clear h
 replace H := bnd H; obtain ⟨ab, A3, H⟩ := H
 replace H := bnd H; obtain ⟨aa, A4, H⟩ := H
 have HC5 := Aside0.mk H
 clear H
 go_enter Tryd.func38, Tryd.ntmps38
 go_upto_region 2 with (first | ((with_reducible refine gtC 49 ?_); refine xCb 8 Tryd.func49 (number_May.calls a0 ab _ A3.out) fun w6 hb => ?_; replace HB := am (sTx HB.out hb)) | ((with_reducible refine gtC 49 ?_); refine xCb 10 Tryd.func49 (number_May.calls a1 aa _ A4.out) fun w7 hb => ?_; replace HB := am (sTx HB.out hb)))
 (try simp only [Act.put, List.setIfInBounds_toArray, List.set_cons_zero, List.set_cons_succ])
 go_cut [11] (fun v11 wc => ∃ (kq : Nat) (al : Bool), v11 = .bool al ∧ Aside0 (version_words.j0 kq a0 a1 ab aa al = some r) ∧ Aside0 (kq ≤ k) ∧ Aside0 (Below w.heap.size w wc))
 case first =>
  have H := HC5.out
  clear HC5
  replace H := ifB H; rcases H with ⟨rfl, H⟩ | ⟨rfl, H⟩
  ·have H' := Aside0.mk H
   clear H
   go_wp2
   go_meet
   case rel => exact ⟨_, (aa), rfG, H', ⟨rfO⟩, ⟨eTx HB.out⟩⟩
  ·have H' := Aside0.mk H
   clear H
   go_wp2
   go_meet
   case rel => exact ⟨_, (false), rfG, H', ⟨rfO⟩, ⟨eTx HB.out⟩⟩
 case rest =>
  clear HC5
  obtain ⟨kq, al, rfl, HA, HJ4, HB⟩ := hcut
  cases kq with
  | zero => exact absurd HA.out (by simp [version_words.j0])
  | succ kj4 =>
   have H := HA.out
   clear HA
   simp only [version_words.j0] at H
   replace H := ifB H; rcases H with ⟨rfl, H⟩ | ⟨rfl, H⟩
   ·replace H := bnd H; obtain ⟨ap, A10, H⟩ := H
    obtain rfl := smI H
    go_wp2_with (first | ((with_reducible refine gtC 36 ?_); refine xCb 18 Tryd.func36 (version_numbers.calls kj4 a0 a1 ap _ A10.out) fun w11 hb => ?_; replace HB := am (sTx HB.out hb)))
    go_ret
    exact ⟨rfF, eTx HB.out⟩
   ·replace H := ifB H; rcases H with ⟨rfl, H⟩ | ⟨rfl, H⟩
    ·obtain rfl := smI H
     go_wp2
     go_ret
     exact ⟨rfF, eTx HB.out⟩
    ·replace H := ifB H; rcases H with ⟨rfl, H⟩ | ⟨rfl, H⟩
     ·obtain rfl := smI H
      go_wp2
      go_ret
      exact ⟨rfF, eTx HB.out⟩
     ·replace H := bnd H; obtain ⟨ah, A14, H⟩ := H
      obtain rfl := smI H
      go_wp2_with (first | ((with_reducible refine gtC 46 ?_); refine xCz 25 Tryd.func46 (octet_Cmp.calls a0 a1 ah _ A14.out) fun nd => ?_))
      go_ret
      exact ⟨rfF, eTx HB.out⟩

end Go.Proofs.YtknmfmedklfepaaDoor.P
