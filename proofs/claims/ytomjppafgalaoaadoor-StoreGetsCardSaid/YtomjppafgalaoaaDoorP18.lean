-- Written by this project's own program (wip/tools/hp.py), driving the kit's print; hand texts among it. Not trusted: Lean checks it.
-- half the indentation
import Derived.Test.YtomjppafgalaoaaDoorThin
import Derived.Test.YtomjppafgalaoaaDoorP0
import Derived.Test.YtomjppafgalaoaaDoorP13
import Derived.Test.YtomjppafgalaoaaDoorP17
namespace Go.Proofs.YtomjppafgalaoaaDoor.P
open Go.RowKit Go.Proofs.YtomjppafgalaoaaDoorW.PrintWords Go.Proofs.YtomjppafgalaoaaDoorW.PrintLast Go.Proofs.YtomjppafgalaoaaDoorW.PrintMore
attribute [local go_sem] max2_int min2_int max_two min_two max_three min_three max_four min_four   -- for this text's walks alone
set_option linter.unusedVariables false
set_option linter.unusedSimpArgs false

/-! ### cmp_Compare_int: function 50 -/
def cmp_Compare_int.f (a0 : Int) (a1 : Int) : Option (Int) := (cmp_isNaN_int.f a0).bind fun aj => ((cmp_isNaN_int.f a1).bind fun ac => (if aj = true then (if ac = true then (some 0) else (some (-1))) else (if ac = true then (some 1) else (if a0 < a1 then (some (-1)) else (if a0 > a1 then (some 1) else (some 0))))))
set_option maxHeartbeats 8000000 in
set_option maxRecDepth 100000 in
theorem cmp_Compare_int.calls (a0 : Int) (a1 : Int) (r : Int) (w : World) (h : cmp_Compare_int.f a0 a1 = some r) :
  Calls Tryd.prog 50 #[.int .i64 a0, .int .i64 a1] w fun e w' => e = .returned (.int .i64 r) ∧ Drawn0 w w' := by
 have H : ((cmp_isNaN_int.f a0).bind fun aj => ((cmp_isNaN_int.f a1).bind fun ac => (if aj = true then (if ac = true then (some 0) else (some (-1))) else (if ac = true then (some 1) else (if a0 < a1 then (some (-1)) else (if a0 > a1 then (some 1) else (some 0))))))) = some r := h
 clear h
 replace H := Option.bind_eq_some_iff.mp H
 obtain ⟨aj, A30, H⟩ := H
 replace H : ((cmp_isNaN_int.f a1).bind fun ac => (if aj = true then (if ac = true then (some 0) else (some (-1))) else (if ac = true then (some 1) else (if a0 < a1 then (some (-1)) else (if a0 > a1 then (some 1) else (some 0)))))) = some r := H
 have A3 := Aside0.mk A30
 clear A30
 replace H := Option.bind_eq_some_iff.mp H
 obtain ⟨ac, A40, H⟩ := H
 replace H : (if aj = true then (if ac = true then (some 0) else (some (-1))) else (if ac = true then (some 1) else (if a0 < a1 then (some (-1)) else (if a0 > a1 then (some 1) else (some 0))))) = some r := H
 have A4 := Aside0.mk A40
 clear A40
 by_cases c5 : aj = true
 ·subst c5
  have H1 : (if ac = true then (some 0) else (some (-1))) = some r := by rw [if_pos rfl] at H; exact H
  clear H
  have H := H1
  clear H1
  by_cases c6 : ac = true
  ·subst c6
   have H1 : (some 0) = some r := by rw [if_pos rfl] at H; exact H
   clear H
   have H := H1
   clear H1
   obtain rfl := Option.some.inj H
   go_enter Tryd.func50, Tryd.ntmps50
   go_wp2_with (first | ((with_reducible refine gate_callee (f := 60) rfl ?_); refine gL (some 8) Tryd.func60 #[.int .i64 a0] ?_; (with_reducible refine (cmp_isNaN_int.calls a0 true _ A3.out).mono ?_); rintro e w' ⟨rfl, ⟨nd, rfl⟩⟩; refine ⟨_, rfl, ?_⟩) | ((with_reducible refine gate_callee (f := 60) rfl ?_); refine gL (some 10) Tryd.func60 #[.int .i64 a1] ?_; (with_reducible refine (cmp_isNaN_int.calls a1 true _ A4.out).mono ?_); rintro e w' ⟨rfl, ⟨nd, rfl⟩⟩; refine ⟨_, rfl, ?_⟩))
   go_ret
   exact ⟨by first | rfl | (simp; done) | (simp [*]; done), by repeat (first | exact Drawn0.refl _ | apply Drawn0.step)⟩
  ·replace c6 := Bool.eq_false_iff.mpr c6
   subst c6
   have H1 : (some (-1)) = some r := by rw [if_neg (show ¬ (false = true) by decide)] at H; exact H
   clear H
   have H := H1
   clear H1
   obtain rfl := Option.some.inj H
   go_enter Tryd.func50, Tryd.ntmps50
   go_wp2_with (first | ((with_reducible refine gate_callee (f := 60) rfl ?_); refine gL (some 8) Tryd.func60 #[.int .i64 a0] ?_; (with_reducible refine (cmp_isNaN_int.calls a0 true _ A3.out).mono ?_); rintro e w' ⟨rfl, ⟨nd, rfl⟩⟩; refine ⟨_, rfl, ?_⟩) | ((with_reducible refine gate_callee (f := 60) rfl ?_); refine gL (some 10) Tryd.func60 #[.int .i64 a1] ?_; (with_reducible refine (cmp_isNaN_int.calls a1 false _ A4.out).mono ?_); rintro e w' ⟨rfl, ⟨nd, rfl⟩⟩; refine ⟨_, rfl, ?_⟩))
   go_ret
   exact ⟨by first | rfl | (simp; done) | (simp [*]; done), by repeat (first | exact Drawn0.refl _ | apply Drawn0.step)⟩
 ·replace c5 := Bool.eq_false_iff.mpr c5
  subst c5
  have H1 : (if ac = true then (some 1) else (if a0 < a1 then (some (-1)) else (if a0 > a1 then (some 1) else (some 0)))) = some r := by rw [if_neg (show ¬ (false = true) by decide)] at H; exact H
  clear H
  have H := H1
  clear H1
  by_cases c7 : ac = true
  ·subst c7
   have H1 : (some 1) = some r := by rw [if_pos rfl] at H; exact H
   clear H
   have H := H1
   clear H1
   obtain rfl := Option.some.inj H
   go_enter Tryd.func50, Tryd.ntmps50
   go_wp2_with (first | ((with_reducible refine gate_callee (f := 60) rfl ?_); refine gL (some 8) Tryd.func60 #[.int .i64 a0] ?_; (with_reducible refine (cmp_isNaN_int.calls a0 false _ A3.out).mono ?_); rintro e w' ⟨rfl, ⟨nd, rfl⟩⟩; refine ⟨_, rfl, ?_⟩) | ((with_reducible refine gate_callee (f := 60) rfl ?_); refine gL (some 10) Tryd.func60 #[.int .i64 a1] ?_; (with_reducible refine (cmp_isNaN_int.calls a1 true _ A4.out).mono ?_); rintro e w' ⟨rfl, ⟨nd, rfl⟩⟩; refine ⟨_, rfl, ?_⟩))
   go_ret
   exact ⟨by first | rfl | (simp; done) | (simp [*]; done), by repeat (first | exact Drawn0.refl _ | apply Drawn0.step)⟩
  ·replace c7 := Bool.eq_false_iff.mpr c7
   subst c7
   have H1 : (if a0 < a1 then (some (-1)) else (if a0 > a1 then (some 1) else (some 0))) = some r := by rw [if_neg (show ¬ (false = true) by decide)] at H; exact H
   clear H
   have H := H1
   clear H1
   by_cases c8 : a0 < a1
   ·rw [if_pos c8] at H
    have az : decide (a0 < a1) = true := decide_eq_true c8
    clear c8
    obtain rfl := Option.some.inj H
    go_enter Tryd.func50, Tryd.ntmps50
    go_wp2_with (first | ((with_reducible refine gate_callee (f := 60) rfl ?_); refine gL (some 8) Tryd.func60 #[.int .i64 a0] ?_; (with_reducible refine (cmp_isNaN_int.calls a0 false _ A3.out).mono ?_); rintro e w' ⟨rfl, ⟨nd, rfl⟩⟩; refine ⟨_, rfl, ?_⟩) | ((with_reducible refine gate_callee (f := 60) rfl ?_); refine gL (some 10) Tryd.func60 #[.int .i64 a1] ?_; (with_reducible refine (cmp_isNaN_int.calls a1 false _ A4.out).mono ?_); rintro e w' ⟨rfl, ⟨nd, rfl⟩⟩; refine ⟨_, rfl, ?_⟩))
    go_ret
    exact ⟨by first | rfl | (simp; done) | (simp [*]; done), by repeat (first | exact Drawn0.refl _ | apply Drawn0.step)⟩
   ·rw [if_neg c8] at H
    have az : decide (a0 < a1) = false := decide_eq_false c8
    clear c8
    by_cases c9 : a0 > a1
    ·rw [if_pos c9] at H
     have aA : decide (a1 < a0) = true := decide_eq_true c9
     clear c9
     obtain rfl := Option.some.inj H
     go_enter Tryd.func50, Tryd.ntmps50
     go_wp2_with (first | ((with_reducible refine gate_callee (f := 60) rfl ?_); refine gL (some 8) Tryd.func60 #[.int .i64 a0] ?_; (with_reducible refine (cmp_isNaN_int.calls a0 false _ A3.out).mono ?_); rintro e w' ⟨rfl, ⟨nd, rfl⟩⟩; refine ⟨_, rfl, ?_⟩) | ((with_reducible refine gate_callee (f := 60) rfl ?_); refine gL (some 10) Tryd.func60 #[.int .i64 a1] ?_; (with_reducible refine (cmp_isNaN_int.calls a1 false _ A4.out).mono ?_); rintro e w' ⟨rfl, ⟨nd, rfl⟩⟩; refine ⟨_, rfl, ?_⟩))
     go_ret
     exact ⟨by first | rfl | (simp; done) | (simp [*]; done), by repeat (first | exact Drawn0.refl _ | apply Drawn0.step)⟩
    ·rw [if_neg c9] at H
     have aA : decide (a1 < a0) = false := decide_eq_false c9
     clear c9
     obtain rfl := Option.some.inj H
     go_enter Tryd.func50, Tryd.ntmps50
     go_wp2_with (first | ((with_reducible refine gate_callee (f := 60) rfl ?_); refine gL (some 8) Tryd.func60 #[.int .i64 a0] ?_; (with_reducible refine (cmp_isNaN_int.calls a0 false _ A3.out).mono ?_); rintro e w' ⟨rfl, ⟨nd, rfl⟩⟩; refine ⟨_, rfl, ?_⟩) | ((with_reducible refine gate_callee (f := 60) rfl ?_); refine gL (some 10) Tryd.func60 #[.int .i64 a1] ?_; (with_reducible refine (cmp_isNaN_int.calls a1 false _ A4.out).mono ?_); rintro e w' ⟨rfl, ⟨nd, rfl⟩⟩; refine ⟨_, rfl, ?_⟩))
     go_ret
     exact ⟨by first | rfl | (simp; done) | (simp [*]; done), by repeat (first | exact Drawn0.refl _ | apply Drawn0.step)⟩

/-! ### number_Cmp: function 59 -/
def number_Cmp.j0 : Nat → ByteArray → ByteArray → Bool → Option (Int × Int)
 | 0, _, _, _ => none
 | k + 1, x0, x1, x13 => if x13 = true then (some (0, 1)) else ((cmp_Compare_int.f (x0.size : Int) (x1.size : Int)).bind fun ae => ((octet_Cmp.f x0 x1).bind fun ad => ((cmp_Or_int.f k (([ae, ad] : List Int))).bind fun af => (some (af, 0)))))
def number_Cmp.f (k : Nat) (a0 : ByteArray) (a1 : ByteArray) : Option (Int × Int) := (number_May.f a0).bind fun an => (if an = true then ((number_May.f a1).bind fun ag => (number_Cmp.j0 k a0 a1 (!ag))) else (number_Cmp.j0 k a0 a1 true))
theorem number_Cmp.mono_l : ∀ k, (∀ y0 y1 y2, LeO (number_Cmp.j0 k y0 y1 y2) (number_Cmp.j0 (k + 1) y0 y1 y2))
 | 0 => fun _ _ _ r h => by simp [number_Cmp.j0] at h
 | k + 1 => by
  have ih0 := number_Cmp.mono_l k
  ·intro y0 y1 y2
   unfold number_Cmp.j0
   repeat' first
   | (with_reducible exact ih0 _ _ _)
   | (with_reducible exact cmp_Or_int.mono _ _)
   | (with_reducible exact LeO.refl _)
   | (with_reducible exact LeO.none _)
   | (with_reducible refine LeO.ite ?_ ?_)
   | (with_reducible refine LeO.bind ?_ (fun _ => ?_))
   | exact ih0 _ _ _
   | exact cmp_Or_int.mono _ _
   | exact LeO.none _
   | refine LeO.ite ?_ ?_
   | refine LeO.bind ?_ (fun _ => ?_)
theorem number_Cmp.mono : ∀ a0 a1 k, LeO (number_Cmp.f k a0 a1) (number_Cmp.f (k + 1) a0 a1) := by
 intro a0 a1 k
 have ih0 := number_Cmp.mono_l k
 unfold number_Cmp.f
 repeat' first
   | (with_reducible exact ih0 _ _ _)
   | (with_reducible exact cmp_Or_int.mono _ _)
   | (with_reducible exact LeO.refl _)
   | (with_reducible exact LeO.none _)
   | (with_reducible refine LeO.ite ?_ ?_)
   | (with_reducible refine LeO.bind ?_ (fun _ => ?_))
   | exact ih0 _ _ _
   | exact cmp_Or_int.mono _ _
   | exact LeO.none _
   | refine LeO.ite ?_ ?_
   | refine LeO.bind ?_ (fun _ => ?_)
set_option maxHeartbeats 8000000 in
set_option maxRecDepth 100000 in
theorem number_Cmp.calls (k : Nat) (a0 : ByteArray) (a1 : ByteArray) (r1 : Int) (r2 : Int) (w : World) (h : number_Cmp.f k a0 a1 = some (r1, r2)) :
  Calls Tryd.prog 59 #[.string a0, .string a1] w fun e w' => e = .returned (.tuple #[.int .i64 r1, .int .i64 r2]) ∧ Below w.heap.size w w' := by
 have HB := am (Below.refl w.heap.size w)
 have H : ((number_May.f a0).bind fun an => (if an = true then ((number_May.f a1).bind fun ag => (number_Cmp.j0 k a0 a1 (!ag))) else (number_Cmp.j0 k a0 a1 true))) = some (r1, r2) := h
 clear h
 have HC3 := Aside0.mk H
 clear H
 go_enter Tryd.func59, Tryd.ntmps59
 go_upto_region 1 with (fail)
 go_cut [13] (fun v13 wc => ∃ (kq : Nat) (ak : Bool), v13 = .bool ak ∧ Aside0 (number_Cmp.j0 kq a0 a1 ak = some (r1, r2)) ∧ Aside0 (kq ≤ k) ∧ Aside0 (Below w.heap.size w wc))
 case first =>
  have H := HC3.out
  clear HC3
  replace H := Option.bind_eq_some_iff.mp H
  obtain ⟨an, A40, H⟩ := H
  replace H : (if an = true then ((number_May.f a1).bind fun ag => (number_Cmp.j0 k a0 a1 (!ag))) else (number_Cmp.j0 k a0 a1 true)) = some (r1, r2) := H
  have A4 := Aside0.mk A40
  clear A40
  by_cases c5 : an = true
  ·subst c5
   have H1 : ((number_May.f a1).bind fun ag => (number_Cmp.j0 k a0 a1 (!ag))) = some (r1, r2) := by rw [if_pos rfl] at H; exact H
   clear H
   have H := H1
   clear H1
   replace H := Option.bind_eq_some_iff.mp H
   obtain ⟨ag, A60, H⟩ := H
   replace H : (number_Cmp.j0 k a0 a1 (!ag)) = some (r1, r2) := H
   have A6 := Aside0.mk A60
   clear A60
   have H' := Aside0.mk H
   clear H
   go_wp2_with (first | ((with_reducible refine gate_callee (f := 57) rfl ?_); refine gL (some 7) Tryd.func57 #[.string a0] ?_; (with_reducible refine (number_May.calls a0 true _ A4.out).mono ?_); rintro e w7 ⟨rfl, hb⟩; refine ⟨_, rfl, ?_⟩; replace HB := am (sT HB.out hb); (try clear hb); (try clear hb2); (try clear hk); (try clear hi)) | (go_at_call 57; (with_reducible refine (number_May.calls a1 ag _ A6.out).mono ?_); rintro e w8 ⟨rfl, hb⟩; replace HB := am (sT HB.out hb); (try clear hb); (try clear hb2); (try clear hk); (try clear hi)))
   go_meet
   case rel => exact ⟨_, (!ag), (by first | rfl | (simp; done) | (simp [*]; done)), H', ⟨by first | omega | exact Nat.le_refl _⟩, ⟨eT HB.out⟩⟩
  ·replace c5 := Bool.eq_false_iff.mpr c5
   subst c5
   have H1 : (number_Cmp.j0 k a0 a1 true) = some (r1, r2) := by rw [if_neg (show ¬ (false = true) by decide)] at H; exact H
   clear H
   have H := H1
   clear H1
   have H' := Aside0.mk H
   clear H
   go_wp2_with (first | ((with_reducible refine gate_callee (f := 57) rfl ?_); refine gL (some 7) Tryd.func57 #[.string a0] ?_; (with_reducible refine (number_May.calls a0 false _ A4.out).mono ?_); rintro e w9 ⟨rfl, hb⟩; refine ⟨_, rfl, ?_⟩; replace HB := am (sT HB.out hb); (try clear hb); (try clear hb2); (try clear hk); (try clear hi)))
   go_meet
   case rel => exact ⟨_, (true), (by first | rfl | (simp; done) | (simp [*]; done)), H', ⟨by first | omega | exact Nat.le_refl _⟩, ⟨eT HB.out⟩⟩
 case rest =>
  clear HC3
  try clear p2
  try clear c5
  obtain ⟨kq, ak, rfl, HA, HJ2, HB⟩ := hcut
  cases kq with
  | zero => exact absurd HA.out (by simp [number_Cmp.j0])
  | succ kj2 =>
   have H := HA.out
   clear HA
   simp only [number_Cmp.j0] at H
   by_cases c10 : ak = true
   ·subst c10
    have H1 : (some (0, 1)) = some (r1, r2) := by rw [if_pos rfl] at H; exact H
    clear H
    have H := H1
    clear H1
    simp only [Option.some.injEq, Prod.mk.injEq] at H
    obtain ⟨rfl, rfl⟩ := H
    go_wp2
    go_ret2
    exact ⟨by first | rfl | (simp [errW_none, errW_some] <;> rfl) | (simp [*, errW_none, errW_some] <;> rfl), eT HB.out⟩
   ·replace c10 := Bool.eq_false_iff.mpr c10
    subst c10
    have H1 : ((cmp_Compare_int.f (a0.size : Int) (a1.size : Int)).bind fun ae => ((octet_Cmp.f a0 a1).bind fun ad => ((cmp_Or_int.f kj2 (([ae, ad] : List Int))).bind fun af => (some (af, 0))))) = some (r1, r2) := by rw [if_neg (show ¬ (false = true) by decide)] at H; exact H
    clear H
    have H := H1
    clear H1
    replace H := Option.bind_eq_some_iff.mp H
    obtain ⟨ae, ar, H⟩ := H
    replace H : ((octet_Cmp.f a0 a1).bind fun ad => ((cmp_Or_int.f kj2 (([ae, ad] : List Int))).bind fun af => (some (af, 0)))) = some (r1, r2) := H
    have A11 := Aside0.mk ar
    clear ar
    replace H := Option.bind_eq_some_iff.mp H
    obtain ⟨ad, au, H⟩ := H
    replace H : ((cmp_Or_int.f kj2 (([ae, ad] : List Int))).bind fun af => (some (af, 0))) = some (r1, r2) := H
    have A12 := Aside0.mk au
    clear au
    obtain ⟨aq, ai⟩ : ∃ y_ : List Int, y_ = (([ae, ad] : List Int)) := ⟨_, rfl⟩
    replace H : ((cmp_Or_int.f kj2 aq).bind fun af => (some (af, 0))) = some (r1, r2) := by first | (rw [ai]; with_reducible exact H) | (have H2_ := (Option.bind_some _ _).symm.trans H; rw [ai]; with_reducible exact H2_) | (have H2_ := (Option.bind_some _ _).symm.trans H; with_reducible exact H2_) | with_reducible exact H | (rw [ai]; exact H) | exact H
    have Ny197 := Aside0.mk ai
    clear ai
    replace H := Option.bind_eq_some_iff.mp H
    obtain ⟨af, av, H⟩ := H
    replace H : (some (af, 0)) = some (r1, r2) := H
    have A13 := Aside0.mk av
    clear av
    simp only [Option.some.injEq, Prod.mk.injEq] at H
    obtain ⟨rfl, rfl⟩ := H
    go_wp2_with (first | ((with_reducible refine gate_callee (f := 50) rfl ?_); refine gL (some 18) Tryd.func50 #[.int .i64 (a0.size : Int), .int .i64 (a1.size : Int)] ?_; (with_reducible refine (cmp_Compare_int.calls (a0.size : Int) (a1.size : Int) ae _ A11.out).mono ?_); rintro e w' ⟨rfl, ⟨nd, rfl⟩⟩; refine ⟨_, rfl, ?_⟩) | ((with_reducible refine gate_callee (f := 44) rfl ?_); refine gL (some 21) Tryd.func44 #[.string a0, .string a1] ?_; (with_reducible refine (octet_Cmp.calls a0 a1 ad _ A12.out).mono ?_); rintro e w' ⟨rfl, ⟨nd, rfl⟩⟩; refine ⟨_, rfl, ?_⟩) | ((with_reducible refine gate_dst (N := 22) rfl ?_); refine Kd.R_lit (Kd.int .i64) _ 3 ?hg (N := 22) ?hd (xs := ([ae, ad] : List Int)) (inner := [.int .i64 ae, .int .i64 ad]) (ok := fun _ => True) (okp := fun _ => True) ?hr ?hp (fun _ hk => hk) trivial (Below.refl _ _) (Nat.le_refl _) (by simp) ?_; (case hd => rfl); (case hg => rfl); (case hr => first | (go_simp; done) | (go_simp; rfl)); (case hp => exact (Reps.one (show Kd.M (Kd.int .i64) _ _ _ ae [.int .i64 ae] from rfl) (Reps.one (show Kd.M (Kd.int .i64) _ _ _ ad [.int .i64 ad] from rfl) (Reps.none _ _)))); intro aF w14 ho15 hb hg_ hnew_; clear hg_ hnew_; (first | rw [← Ny197.out] at ho15 | (simp only [Int.reduceToNat] at ho15; rw [← Ny197.out] at ho15)); have ap := am (Kd.R_lower ho15 (below_size (eT HB.out))); replace HB := am (sT HB.out hb); clear hb ho15; obtain ⟨aB, aC, aD⟩ := Kd.R_slice ap.out; subst aD) | ((with_reducible refine gate_callee (f := 43) rfl ?_); refine gL (some 23) Tryd.func43 #[.slice aB aq.length aC] ?_; (with_reducible refine (cmp_Or_int.calls kj2 _ _ aq af _ ?side1 ?side2 A13.out).mono ?_); (case side1 => repeat (first | exact (Kd.R_reads' ap.out).2.2 | (with_reducible refine Kd.C_alloc ?_ _) | (with_reducible refine Kd.C_drewN ?_ _) | (with_reducible refine Kd.C_drew ?_))); (case side2 => exact (Kd.R_reads' ap.out).2.1); rintro e w' ⟨rfl, ⟨nd, rfl⟩⟩; refine ⟨_, rfl, ?_⟩))
    go_ret2
    exact ⟨by first | rfl | (simp [errW_none, errW_some] <;> rfl) | (simp [*, errW_none, errW_some] <;> rfl), eT HB.out⟩

/-! ### version_numbers: function 49 -/
def version_numbers.f (k : Nat) (a0 : ByteArray) (a1 : ByteArray) : Option (Int) := (number_Cmp.f k a0 a1).bind fun bt201 => (some bt201.1)
theorem version_numbers.mono : ∀ a0 a1 k, LeO (version_numbers.f k a0 a1) (version_numbers.f (k + 1) a0 a1) := by
 intro a0 a1 k
 unfold version_numbers.f
 repeat' first
   | (with_reducible exact number_Cmp.mono _ _ _)
   | (with_reducible exact LeO.refl _)
   | (with_reducible exact LeO.none _)
   | (with_reducible refine LeO.ite ?_ ?_)
   | (with_reducible refine LeO.bind ?_ (fun _ => ?_))
   | exact number_Cmp.mono _ _ _
   | exact LeO.none _
   | refine LeO.ite ?_ ?_
   | refine LeO.bind ?_ (fun _ => ?_)
set_option maxHeartbeats 8000000 in
set_option maxRecDepth 100000 in
theorem version_numbers.calls (k : Nat) (a0 : ByteArray) (a1 : ByteArray) (r : Int) (w : World) (h : version_numbers.f k a0 a1 = some r) :
  Calls Tryd.prog 49 #[.string a0, .string a1] w fun e w' => e = .returned (.int .i64 r) ∧ Below w.heap.size w w' := by
 have HB := am (Below.refl w.heap.size w)
 have H : ((number_Cmp.f k a0 a1).bind fun bt201 => (some bt201.1)) = some r := h
 clear h
 replace H := Option.bind_eq_some_iff.mp H
 obtain ⟨⟨aw, aE⟩, A30, H⟩ := H
 replace H : (some aw) = some r := H
 have A3 := Aside0.mk A30
 clear A30
 obtain rfl := Option.some.inj H
 go_enter Tryd.func49, Tryd.ntmps49
 go_wp2_with (first | ((with_reducible refine gate_callee (f := 59) rfl ?_); refine gL (some 10) Tryd.func59 #[.string a0, .string a1] ?_; (with_reducible refine (number_Cmp.calls k a0 a1 aw aE _ A3.out).mono ?_); rintro e w4 ⟨rfl, hb⟩; refine ⟨_, rfl, ?_⟩; replace HB := am (sT HB.out hb); (try clear hb); (try clear hb2); (try clear hk); (try clear hi)))
 go_ret
 exact ⟨by first | rfl | (simp [errW_none, errW_some] <;> rfl) | (simp [*, errW_none, errW_some] <;> rfl), eT HB.out⟩

/-! ### version_words: function 51 -/
def version_words.j0 : Nat → ByteArray → ByteArray → Bool → Bool → Bool → Option (Int)
 | 0, _, _, _, _, _ => none
 | k + 1, x0, x1, x5, x6, x11 => if x11 = true then ((version_numbers.f k x0 x1).bind fun ao => (some ao)) else (if x5 = true then (some (-1)) else (if x6 = true then (some 1) else ((octet_Cmp.f x0 x1).bind fun ah => (some ah))))
def version_words.f (k : Nat) (a0 : ByteArray) (a1 : ByteArray) : Option (Int) := (number_May.f a0).bind fun ab => ((number_May.f a1).bind fun aa => (if ab = true then (version_words.j0 k a0 a1 ab aa aa) else (version_words.j0 k a0 a1 ab aa false)))
theorem version_words.mono_l : ∀ k, (∀ y0 y1 y2 y3 y4, LeO (version_words.j0 k y0 y1 y2 y3 y4) (version_words.j0 (k + 1) y0 y1 y2 y3 y4))
 | 0 => fun _ _ _ _ _ r h => by simp [version_words.j0] at h
 | k + 1 => by
  have ih0 := version_words.mono_l k
  ·intro y0 y1 y2 y3 y4
   unfold version_words.j0
   repeat' first
   | (with_reducible exact ih0 _ _ _ _ _)
   | (with_reducible exact version_numbers.mono _ _ _)
   | (with_reducible exact LeO.refl _)
   | (with_reducible exact LeO.none _)
   | (with_reducible refine LeO.ite ?_ ?_)
   | (with_reducible refine LeO.bind ?_ (fun _ => ?_))
   | exact ih0 _ _ _ _ _
   | exact version_numbers.mono _ _ _
   | exact LeO.none _
   | refine LeO.ite ?_ ?_
   | refine LeO.bind ?_ (fun _ => ?_)
theorem version_words.mono : ∀ a0 a1 k, LeO (version_words.f k a0 a1) (version_words.f (k + 1) a0 a1) := by
 intro a0 a1 k
 have ih0 := version_words.mono_l k
 unfold version_words.f
 repeat' first
   | (with_reducible exact ih0 _ _ _ _ _)
   | (with_reducible exact version_numbers.mono _ _ _)
   | (with_reducible exact LeO.refl _)
   | (with_reducible exact LeO.none _)
   | (with_reducible refine LeO.ite ?_ ?_)
   | (with_reducible refine LeO.bind ?_ (fun _ => ?_))
   | exact ih0 _ _ _ _ _
   | exact version_numbers.mono _ _ _
   | exact LeO.none _
   | refine LeO.ite ?_ ?_
   | refine LeO.bind ?_ (fun _ => ?_)
set_option maxHeartbeats 8000000 in
set_option maxRecDepth 100000 in
theorem version_words.calls (k : Nat) (a0 : ByteArray) (a1 : ByteArray) (r : Int) (w : World) (h : version_words.f k a0 a1 = some r) :
  Calls Tryd.prog 51 #[.string a0, .string a1] w fun e w' => e = .returned (.int .i64 r) ∧ Below w.heap.size w w' := by
 have HB := am (Below.refl w.heap.size w)
 have H : ((number_May.f a0).bind fun ab => ((number_May.f a1).bind fun aa => (if ab = true then (version_words.j0 k a0 a1 ab aa aa) else (version_words.j0 k a0 a1 ab aa false)))) = some r := h
 clear h
 replace H := Option.bind_eq_some_iff.mp H
 obtain ⟨ab, A30, H⟩ := H
 replace H : ((number_May.f a1).bind fun aa => (if ab = true then (version_words.j0 k a0 a1 ab aa aa) else (version_words.j0 k a0 a1 ab aa false))) = some r := H
 have A3 := Aside0.mk A30
 clear A30
 replace H := Option.bind_eq_some_iff.mp H
 obtain ⟨aa, A40, H⟩ := H
 replace H : (if ab = true then (version_words.j0 k a0 a1 ab aa aa) else (version_words.j0 k a0 a1 ab aa false)) = some r := H
 have A4 := Aside0.mk A40
 clear A40
 have HC5 := Aside0.mk H
 clear H
 go_enter Tryd.func51, Tryd.ntmps51
 go_upto_region 2 with (first | ((with_reducible refine gate_callee (f := 57) rfl ?_); refine gL (some 8) Tryd.func57 #[.string a0] ?_; (with_reducible refine (number_May.calls a0 ab _ A3.out).mono ?_); rintro e w6 ⟨rfl, hb⟩; refine ⟨_, rfl, ?_⟩; replace HB := am (sT HB.out hb); (try clear hb); (try clear hb2); (try clear hk); (try clear hi)) | ((with_reducible refine gate_callee (f := 57) rfl ?_); refine gL (some 10) Tryd.func57 #[.string a1] ?_; (with_reducible refine (number_May.calls a1 aa _ A4.out).mono ?_); rintro e w7 ⟨rfl, hb⟩; refine ⟨_, rfl, ?_⟩; replace HB := am (sT HB.out hb); (try clear hb); (try clear hb2); (try clear hk); (try clear hi)))
 (try simp only [Act.put, List.setIfInBounds_toArray, List.set_cons_zero, List.set_cons_succ])
 go_cut [11] (fun v11 wc => ∃ (kq : Nat) (al : Bool), v11 = .bool al ∧ Aside0 (version_words.j0 kq a0 a1 ab aa al = some r) ∧ Aside0 (kq ≤ k) ∧ Aside0 (Below w.heap.size w wc))
 case first =>
  have H := HC5.out
  clear HC5
  by_cases c8 : ab = true
  ·subst c8
   have H1 : (version_words.j0 k a0 a1 true aa aa) = some r := by rw [if_pos rfl] at H; exact H
   clear H
   have H := H1
   clear H1
   have H' := Aside0.mk H
   clear H
   go_wp2
   go_meet
   case rel => exact ⟨_, (aa), (by first | rfl | (simp; done) | (simp [*]; done)), H', ⟨by first | omega | exact Nat.le_refl _⟩, ⟨eT HB.out⟩⟩
  ·replace c8 := Bool.eq_false_iff.mpr c8
   subst c8
   have H1 : (version_words.j0 k a0 a1 false aa false) = some r := by rw [if_neg (show ¬ (false = true) by decide)] at H; exact H
   clear H
   have H := H1
   clear H1
   have H' := Aside0.mk H
   clear H
   go_wp2
   go_meet
   case rel => exact ⟨_, (false), (by first | rfl | (simp; done) | (simp [*]; done)), H', ⟨by first | omega | exact Nat.le_refl _⟩, ⟨eT HB.out⟩⟩
 case rest =>
  clear HC5
  try clear p2
  try clear c5
  try clear c8
  obtain ⟨kq, al, rfl, HA, HJ4, HB⟩ := hcut
  cases kq with
  | zero => exact absurd HA.out (by simp [version_words.j0])
  | succ kj4 =>
   have H := HA.out
   clear HA
   simp only [version_words.j0] at H
   by_cases c9 : al = true
   ·subst c9
    have H1 : ((version_numbers.f kj4 a0 a1).bind fun ao => (some ao)) = some r := by rw [if_pos rfl] at H; exact H
    clear H
    have H := H1
    clear H1
    replace H := Option.bind_eq_some_iff.mp H
    obtain ⟨ao, ax, H⟩ := H
    replace H : (some ao) = some r := H
    have A10 := Aside0.mk ax
    clear ax
    obtain rfl := Option.some.inj H
    go_wp2_with (first | ((with_reducible refine gate_callee (f := 49) rfl ?_); refine gL (some 18) Tryd.func49 #[.string a0, .string a1] ?_; (with_reducible refine (version_numbers.calls kj4 a0 a1 ao _ A10.out).mono ?_); rintro e w11 ⟨rfl, hb⟩; refine ⟨_, rfl, ?_⟩; replace HB := am (sT HB.out hb); (try clear hb); (try clear hb2); (try clear hk); (try clear hi)))
    go_ret
    exact ⟨by first | rfl | (simp [errW_none, errW_some] <;> rfl) | (simp [*, errW_none, errW_some] <;> rfl), eT HB.out⟩
   ·replace c9 := Bool.eq_false_iff.mpr c9
    subst c9
    have H1 : (if ab = true then (some (-1)) else (if aa = true then (some 1) else ((octet_Cmp.f a0 a1).bind fun ah => (some ah)))) = some r := by rw [if_neg (show ¬ (false = true) by decide)] at H; exact H
    clear H
    have H := H1
    clear H1
    by_cases c12 : ab = true
    ·subst c12
     have H1 : (some (-1)) = some r := by rw [if_pos rfl] at H; exact H
     clear H
     have H := H1
     clear H1
     obtain rfl := Option.some.inj H
     go_wp2
     go_ret
     exact ⟨by first | rfl | (simp [errW_none, errW_some] <;> rfl) | (simp [*, errW_none, errW_some] <;> rfl), eT HB.out⟩
    ·replace c12 := Bool.eq_false_iff.mpr c12
     subst c12
     have H1 : (if aa = true then (some 1) else ((octet_Cmp.f a0 a1).bind fun ah => (some ah))) = some r := by rw [if_neg (show ¬ (false = true) by decide)] at H; exact H
     clear H
     have H := H1
     clear H1
     by_cases c13 : aa = true
     ·subst c13
      have H1 : (some 1) = some r := by rw [if_pos rfl] at H; exact H
      clear H
      have H := H1
      clear H1
      obtain rfl := Option.some.inj H
      go_wp2
      go_ret
      exact ⟨by first | rfl | (simp [errW_none, errW_some] <;> rfl) | (simp [*, errW_none, errW_some] <;> rfl), eT HB.out⟩
     ·replace c13 := Bool.eq_false_iff.mpr c13
      subst c13
      have H1 : ((octet_Cmp.f a0 a1).bind fun ah => (some ah)) = some r := by rw [if_neg (show ¬ (false = true) by decide)] at H; exact H
      clear H
      have H := H1
      clear H1
      replace H := Option.bind_eq_some_iff.mp H
      obtain ⟨ah, ay, H⟩ := H
      replace H : (some ah) = some r := H
      have A14 := Aside0.mk ay
      clear ay
      obtain rfl := Option.some.inj H
      go_wp2_with (first | ((with_reducible refine gate_callee (f := 44) rfl ?_); refine gL (some 25) Tryd.func44 #[.string a0, .string a1] ?_; (with_reducible refine (octet_Cmp.calls a0 a1 ah _ A14.out).mono ?_); rintro e w' ⟨rfl, ⟨nd, rfl⟩⟩; refine ⟨_, rfl, ?_⟩))
      go_ret
      exact ⟨by first | rfl | (simp [errW_none, errW_some] <;> rfl) | (simp [*, errW_none, errW_some] <;> rfl), eT HB.out⟩

end Go.Proofs.YtomjppafgalaoaaDoor.P
