-- Written by this project's own program (wip/tools/hp.py), driving the kit's print; hand texts among it. Not trusted: Lean checks it.
-- half the indentation
import Derived.Test.YtjadpeahoaogcaaDoorThin
import Derived.Test.YtjadpeahoaogcaaDoorP0
import Derived.Test.YtjadpeahoaogcaaDoorP2
import Derived.Test.YtjadpeahoaogcaaDoorP4
import Derived.Test.YtjadpeahoaogcaaDoorP5
import Derived.Test.YtjadpeahoaogcaaDoorP7
import Derived.Test.YtjadpeahoaogcaaDoorP8
import Derived.Test.YtjadpeahoaogcaaDoorP11
namespace Go.Proofs.YtjadpeahoaogcaaDoor.P
open Go.RowKit Go.Proofs.YtjadpeahoaogcaaDoorW.PrintWords Go.Proofs.YtjadpeahoaogcaaDoorW.PrintLast Go.Proofs.YtjadpeahoaogcaaDoorW.PrintMore
attribute [local go_sem] max2_int min2_int max_two min_two max_three min_three max_four min_four   -- for this text's walks alone
set_option linter.unusedVariables false
set_option linter.unusedSimpArgs false

/-! ### strings_ContainsAny: function 47 -/
def strings_ContainsAny.f (a0 : ByteArray) (a1 : ByteArray) : Option (Bool) := (strings_IndexAny.f a0 a1).bind fun t110 => (some (decide (t110 ≥ 0)))
set_option maxHeartbeats 8000000 in
set_option maxRecDepth 100000 in
theorem strings_ContainsAny.calls (a0 : ByteArray) (a1 : ByteArray) (r : Bool) (w : World) (h : strings_ContainsAny.f a0 a1 = some r) :
  Calls Tryd.prog 47 #[.string a0, .string a1] w fun e w' => e = .returned (.bool r) ∧ Below w.heap.size w w' := by
 have HB := am (Below.refl w.heap.size w)
 have H : ((strings_IndexAny.f a0 a1).bind fun t110 => (some (decide (t110 ≥ 0)))) = some r := h
 clear h
 replace H := Option.bind_eq_some_iff.mp H
 obtain ⟨t110, A30, H⟩ := H
 replace H : (some (decide (t110 ≥ 0))) = some r := H
 have A3 := Aside0.mk A30
 clear A30
 obtain rfl := Option.some.inj H
 go_enter Tryd.func47, Tryd.ntmps47
 go_wp2_with (first | ((with_reducible refine gate_callee (f := 54) rfl ?_); refine gL (some 7) Tryd.func54 #[.string a0, .string a1] ?_; (with_reducible refine (strings_IndexAny.calls a0 a1 t110 _ A3.out).mono ?_); rintro e w4 ⟨rfl, hb⟩; refine ⟨_, rfl, ?_⟩; replace HB := am (sT HB.out hb); (try clear hb); (try clear hb2); (try clear hk); (try clear hi)))
 go_ret
 exact ⟨by first | rfl | (simp [errW_none, errW_some] <;> rfl) | (simp [*, errW_none, errW_some] <;> rfl), eT HB.out⟩

/-! ### version_word: function 33 -/
def version_word.j0 : Nat → ByteArray → Bool → Option (Bool)
 | 0, _, _ => none
 | k + 1, x0, x14 => if x14 = true then (some false) else ((number_May.f x0).bind fun t116 => (if t116 = true then (some true) else ((octet_All.f x0 (([1] : List Int))).bind fun t120 => (some (!t120)))))
def version_word.f (k : Nat) (a0 : ByteArray) : Option (Bool) := if a0.toList = ([] : List UInt8) then (version_word.j0 k a0 true) else ((strings_ContainsAny.f a0 (⟨#[46, 95, 126]⟩ : ByteArray)).bind fun t111 => (if t111 = true then (version_word.j0 k a0 true) else ((octet_All.f a0 (([1, 2, 3] : List Int))).bind fun t115 => (version_word.j0 k a0 (!t115)))))
theorem version_word.mono_l : ∀ k, (∀ y0 y1, LeO (version_word.j0 k y0 y1) (version_word.j0 (k + 1) y0 y1))
 | 0 => fun _ _ r h => by simp [version_word.j0] at h
 | k + 1 => by
  have ih0 := version_word.mono_l k
  ·intro y0 y1
   unfold version_word.j0
   repeat' first
   | (with_reducible exact ih0 _ _)
   | (with_reducible exact LeO.refl _)
   | (with_reducible exact LeO.none _)
   | (with_reducible refine LeO.ite ?_ ?_)
   | (with_reducible refine LeO.bind ?_ (fun _ => ?_))
   | exact ih0 _ _
   | exact LeO.none _
   | refine LeO.ite ?_ ?_
   | refine LeO.bind ?_ (fun _ => ?_)
theorem version_word.mono : ∀ a0 k, LeO (version_word.f k a0) (version_word.f (k + 1) a0) := by
 intro a0 k
 have ih0 := version_word.mono_l k
 unfold version_word.f
 repeat' first
   | (with_reducible exact ih0 _ _)
   | (with_reducible exact LeO.refl _)
   | (with_reducible exact LeO.none _)
   | (with_reducible refine LeO.ite ?_ ?_)
   | (with_reducible refine LeO.bind ?_ (fun _ => ?_))
   | exact ih0 _ _
   | exact LeO.none _
   | refine LeO.ite ?_ ?_
   | refine LeO.bind ?_ (fun _ => ?_)
set_option maxHeartbeats 8000000 in
set_option maxRecDepth 100000 in
theorem version_word.calls (k : Nat) (a0 : ByteArray) (r : Bool) (w : World) (h : version_word.f k a0 = some r) :
  Calls Tryd.prog 33 #[.string a0] w fun e w' => e = .returned (.bool r) ∧ Below w.heap.size w w' := by
 have HB := am (Below.refl w.heap.size w)
 have H : (if a0.toList = ([] : List UInt8) then (version_word.j0 k a0 true) else ((strings_ContainsAny.f a0 (⟨#[46, 95, 126]⟩ : ByteArray)).bind fun t111 => (if t111 = true then (version_word.j0 k a0 true) else ((octet_All.f a0 (([1, 2, 3] : List Int))).bind fun t115 => (version_word.j0 k a0 (!t115)))))) = some r := h
 clear h
 have HC2 := Aside0.mk H
 clear H
 go_enter Tryd.func33, Tryd.ntmps33
 go_upto_region 1 with (fail)
 go_cut [14] (fun v14 wc => ∃ (kq : Nat) (x14_1 : Bool), v14 = .bool x14_1 ∧ Aside0 (version_word.j0 kq a0 x14_1 = some r) ∧ Aside0 (kq ≤ k) ∧ Aside0 (Below w.heap.size w wc))
 case first =>
  have H := HC2.out
  clear HC2
  by_cases c3 : a0.toList = ([] : List UInt8)
  ·rw [if_pos c3] at H
   have c3b0 : (a0.toList == ([] : List UInt8)) = true := beq_iff_eq.mpr c3
   have c3b1 : (a0.toList != ([] : List UInt8)) = false := bne_eq_false_iff_eq.mpr c3
   clear c3
   (first | rw [c3b0] | (simp only [i64_w, i32_w]; rw [c3b0]) | skip)
   have H' := Aside0.mk H
   clear H
   go_wp2
   go_meet
   case rel => exact ⟨_, (true), (by first | rfl | (simp; done) | (simp [*]; done)), H', ⟨by first | omega | exact Nat.le_refl _⟩, ⟨eT HB.out⟩⟩
  ·rw [if_neg c3] at H
   have c3b0 : (a0.toList == ([] : List UInt8)) = false := beq_eq_false_iff_ne.mpr c3
   have c3b1 : (a0.toList != ([] : List UInt8)) = true := bne_iff_ne.mpr c3
   (first | rw [c3b0] | (simp only [i64_w, i32_w]; rw [c3b0]) | skip)
   replace H := Option.bind_eq_some_iff.mp H
   obtain ⟨t111, A40, H⟩ := H
   replace H : (if t111 = true then (version_word.j0 k a0 true) else ((octet_All.f a0 (([1, 2, 3] : List Int))).bind fun t115 => (version_word.j0 k a0 (!t115)))) = some r := H
   have A4 := Aside0.mk A40
   clear A40
   by_cases c5 : t111 = true
   ·subst c5
    have H1 : (version_word.j0 k a0 true) = some r := by rw [if_pos rfl] at H; exact H
    clear H
    have H := H1
    clear H1
    have H' := Aside0.mk H
    clear H
    go_wp2_with (first | (go_at_call 47; (with_reducible refine (strings_ContainsAny.calls a0 (⟨#[46, 95, 126]⟩ : ByteArray) true _ A4.out).mono ?_); rintro e w6 ⟨rfl, hb⟩; replace HB := am (sT HB.out hb); (try clear hb); (try clear hb2); (try clear hk); (try clear hi)))
    go_meet
    case rel => exact ⟨_, (true), (by first | rfl | (simp; done) | (simp [*]; done)), H', ⟨by first | omega | exact Nat.le_refl _⟩, ⟨eT HB.out⟩⟩
   ·replace c5 := Bool.eq_false_iff.mpr c5
    subst c5
    have H1 : ((octet_All.f a0 (([1, 2, 3] : List Int))).bind fun t115 => (version_word.j0 k a0 (!t115))) = some r := by rw [if_neg (show ¬ (false = true) by decide)] at H; exact H
    clear H
    have H := H1
    clear H1
    obtain ⟨y112, hy112⟩ : ∃ y_ : List Int, y_ = (([1, 2, 3] : List Int)) := ⟨_, rfl⟩
    replace H : ((octet_All.f a0 y112).bind fun t115 => (version_word.j0 k a0 (!t115))) = some r := by first | (rw [hy112]; with_reducible exact H) | (have H2_ := (Option.bind_some _ _).symm.trans H; rw [hy112]; with_reducible exact H2_) | (have H2_ := (Option.bind_some _ _).symm.trans H; with_reducible exact H2_) | with_reducible exact H | (rw [hy112]; exact H) | exact H
    have Ny112 := Aside0.mk hy112
    clear hy112
    replace H := Option.bind_eq_some_iff.mp H
    obtain ⟨t115, A70, H⟩ := H
    replace H : (version_word.j0 k a0 (!t115)) = some r := H
    have A7 := Aside0.mk A70
    clear A70
    have H' := Aside0.mk H
    clear H
    go_wp2_with (first | (go_at_call 47; (with_reducible refine (strings_ContainsAny.calls a0 (⟨#[46, 95, 126]⟩ : ByteArray) false _ A4.out).mono ?_); rintro e w8 ⟨rfl, hb⟩; replace HB := am (sT HB.out hb); (try clear hb); (try clear hb2); (try clear hk); (try clear hi)) | ((with_reducible refine gate_dst (N := 11) rfl ?_); (try (refine gate_guard (by rfl) ?_; dsimp only)); refine Kd.R_lit (Kd.int .i64) _ 3 ?hg (N := 11) ?hd (xs := ([1, 2, 3] : List Int)) (inner := [.int .i64 1, .int .i64 2, .int .i64 3]) (ok := fun _ => True) (okp := fun _ => True) ?hr ?hp (fun _ hk => hk) trivial (Below.refl _ _) (Nat.le_refl _) (by simp) ?_; (case hd => rfl); (case hg => rfl); (case hr => first | (go_simp; done) | (go_simp; rfl)); (case hp => exact (Reps.one (show Kd.M (Kd.int .i64) _ _ _ 1 [.int .i64 1] from rfl) (Reps.one (show Kd.M (Kd.int .i64) _ _ _ 2 [.int .i64 2] from rfl) (Reps.one (show Kd.M (Kd.int .i64) _ _ _ 3 [.int .i64 3] from rfl) (Reps.none _ _))))); intro v113 w9 ho10 hb hg_ hnew_; clear hg_ hnew_; (first | rw [← Ny112.out] at ho10 | (simp only [Int.reduceToNat] at ho10; rw [← Ny112.out] at ho10)); have HO114 := am (Kd.R_lower ho10 (below_size (eT HB.out))); replace HB := am (sT HB.out hb); clear hb ho10; obtain ⟨Ao11, co11, eo11⟩ := Kd.R_slice HO114.out; subst eo11) | (go_at_call 46; (with_reducible refine (octet_All.calls a0 _ _ y112 t115 _ ?side1 ?side2 A7.out).mono ?_); (case side1 => repeat (first | exact (Kd.R_reads' HO114.out).2.2 | (with_reducible refine Kd.C_alloc ?_ _) | (with_reducible refine Kd.C_drewN ?_ _) | (with_reducible refine Kd.C_drew ?_))); (case side2 => exact (Kd.R_reads' HO114.out).2.1); rintro e w12 ⟨rfl, hb⟩; replace HO114 := am (rB HO114.out hb); replace HB := am (sT HB.out hb); (try clear hb); (try clear hb2); (try clear hk); (try clear hi)))
    go_meet
    case rel => exact ⟨_, (!t115), (by first | rfl | (simp; done) | (simp [*]; done)), H', ⟨by first | omega | exact Nat.le_refl _⟩, ⟨eT HB.out⟩⟩
 case rest =>
  clear HC2
  try clear p2
  try clear c3
  try clear c3b0
  try clear c3b1
  try clear c5
  obtain ⟨kq, x14_1, rfl, HA, HJ1, HB⟩ := hcut
  cases kq with
  | zero => exact absurd HA.out (by simp [version_word.j0])
  | succ kj1 =>
   have H := HA.out
   clear HA
   simp only [version_word.j0] at H
   by_cases c13 : x14_1 = true
   ·subst c13
    have H1 : (some false) = some r := by rw [if_pos rfl] at H; exact H
    clear H
    have H := H1
    clear H1
    obtain rfl := Option.some.inj H
    go_wp2
    go_ret
    exact ⟨by first | rfl | (simp [errW_none, errW_some] <;> rfl) | (simp [*, errW_none, errW_some] <;> rfl), eT HB.out⟩
   ·replace c13 := Bool.eq_false_iff.mpr c13
    subst c13
    have H1 : ((number_May.f a0).bind fun t116 => (if t116 = true then (some true) else ((octet_All.f a0 (([1] : List Int))).bind fun t120 => (some (!t120))))) = some r := by rw [if_neg (show ¬ (false = true) by decide)] at H; exact H
    clear H
    have H := H1
    clear H1
    replace H := Option.bind_eq_some_iff.mp H
    obtain ⟨t116, A140, H⟩ := H
    replace H : (if t116 = true then (some true) else ((octet_All.f a0 (([1] : List Int))).bind fun t120 => (some (!t120)))) = some r := H
    have A14 := Aside0.mk A140
    clear A140
    by_cases c15 : t116 = true
    ·subst c15
     have H1 : (some true) = some r := by rw [if_pos rfl] at H; exact H
     clear H
     have H := H1
     clear H1
     obtain rfl := Option.some.inj H
     go_wp2_with (first | ((with_reducible refine gate_callee (f := 32) rfl ?_); refine gL (some 16) Tryd.func32 #[.string a0] ?_; (with_reducible refine (number_May.calls a0 true _ A14.out).mono ?_); rintro e w16 ⟨rfl, hb⟩; refine ⟨_, rfl, ?_⟩; replace HB := am (sT HB.out hb); (try clear hb); (try clear hb2); (try clear hk); (try clear hi)))
     go_ret
     exact ⟨by first | rfl | (simp [errW_none, errW_some] <;> rfl) | (simp [*, errW_none, errW_some] <;> rfl), eT HB.out⟩
    ·replace c15 := Bool.eq_false_iff.mpr c15
     subst c15
     have H1 : ((octet_All.f a0 (([1] : List Int))).bind fun t120 => (some (!t120))) = some r := by rw [if_neg (show ¬ (false = true) by decide)] at H; exact H
     clear H
     have H := H1
     clear H1
     obtain ⟨y117, hy117⟩ : ∃ y_ : List Int, y_ = (([1] : List Int)) := ⟨_, rfl⟩
     replace H : ((octet_All.f a0 y117).bind fun t120 => (some (!t120))) = some r := by first | (rw [hy117]; with_reducible exact H) | (have H2_ := (Option.bind_some _ _).symm.trans H; rw [hy117]; with_reducible exact H2_) | (have H2_ := (Option.bind_some _ _).symm.trans H; with_reducible exact H2_) | with_reducible exact H | (rw [hy117]; exact H) | exact H
     have Ny117 := Aside0.mk hy117
     clear hy117
     replace H := Option.bind_eq_some_iff.mp H
     obtain ⟨t120, A170, H⟩ := H
     replace H : (some (!t120)) = some r := H
     have A17 := Aside0.mk A170
     clear A170
     obtain rfl := Option.some.inj H
     go_wp2_with (first | ((with_reducible refine gate_callee (f := 32) rfl ?_); refine gL (some 16) Tryd.func32 #[.string a0] ?_; (with_reducible refine (number_May.calls a0 false _ A14.out).mono ?_); rintro e w18 ⟨rfl, hb⟩; refine ⟨_, rfl, ?_⟩; replace HB := am (sT HB.out hb); (try clear hb); (try clear hb2); (try clear hk); (try clear hi)) | ((with_reducible refine gate_dst (N := 19) rfl ?_); (try (refine gate_guard (by rfl) ?_; dsimp only)); refine Kd.R_lit (Kd.int .i64) _ 3 ?hg (N := 19) ?hd (xs := ([1] : List Int)) (inner := [.int .i64 1]) (ok := fun _ => True) (okp := fun _ => True) ?hr ?hp (fun _ hk => hk) trivial (Below.refl _ _) (Nat.le_refl _) (by simp) ?_; (case hd => rfl); (case hg => rfl); (case hr => first | (go_simp; done) | (go_simp; rfl)); (case hp => exact (Reps.one (show Kd.M (Kd.int .i64) _ _ _ 1 [.int .i64 1] from rfl) (Reps.none _ _))); intro v118 w19 ho20 hb hg_ hnew_; clear hg_ hnew_; (first | rw [← Ny117.out] at ho20 | (simp only [Int.reduceToNat] at ho20; rw [← Ny117.out] at ho20)); have HO119 := am (Kd.R_lower ho20 (below_size (eT HB.out))); replace HB := am (sT HB.out hb); clear hb ho20; obtain ⟨Ao21, co21, eo21⟩ := Kd.R_slice HO119.out; subst eo21) | (go_at_call 46; (with_reducible refine (octet_All.calls a0 _ _ y117 t120 _ ?side1 ?side2 A17.out).mono ?_); (case side1 => repeat (first | exact (Kd.R_reads' HO119.out).2.2 | (with_reducible refine Kd.C_alloc ?_ _) | (with_reducible refine Kd.C_drewN ?_ _) | (with_reducible refine Kd.C_drew ?_))); (case side2 => exact (Kd.R_reads' HO119.out).2.1); rintro e w22 ⟨rfl, hb⟩; replace HO119 := am (rB HO119.out hb); replace HB := am (sT HB.out hb); (try clear hb); (try clear hb2); (try clear hk); (try clear hi)))
     go_ret
     exact ⟨by first | rfl | (simp [errW_none, errW_some] <;> rfl) | (simp [*, errW_none, errW_some] <;> rfl), eT HB.out⟩

/-! ### version_Split: function 18 -/
mutual
def version_Split.j0 : Nat → ByteArray → Bool → List ByteArray → Bool → Option (ByteArray × ByteArray × ByteArray × List ByteArray × Int)
 | 0, _, _, _, _ => none
 | k + 1, x5, x6, x7, x47 => if x47 = true then (some ((⟨#[]⟩ : ByteArray), (⟨#[]⟩ : ByteArray), (⟨#[]⟩ : ByteArray), ([] : List ByteArray), 1)) else (if 0 < (x7.length : Int) then (if 1 < (x7.length : Int) then (if 2 < (x7.length : Int) then (if x6 = true then ((octet_Parts.f x5 46).bind fun t139 => (version_Split.l0 k t139 (t139.length : Int) 0 (rdOf ByteArray.empty x7 0) (rdOf ByteArray.empty x7 1) (rdOf ByteArray.empty x7 2) t139)) else (some (rdOf ByteArray.empty x7 0, rdOf ByteArray.empty x7 1, rdOf ByteArray.empty x7 2, ([] : List ByteArray), 0))) else (none)) else (none)) else (none))
def version_Split.l0 : Nat → List ByteArray → Int → Int → ByteArray → ByteArray → ByteArray → List ByteArray → Option (ByteArray × ByteArray × ByteArray × List ByteArray × Int)
 | 0, _, _, _, _, _, _, _ => none
 | k + 1, x66, x67, x68, x139000, x139001, x139002, x139003 => if x68 < x67 then (if 0 ≤ x68 then (if x68 < (x66.length : Int) then ((version_word.f k (rdOf ByteArray.empty x66 x68)).bind fun t143 => (if t143 = true then (version_Split.l0 k x66 x67 (wrap64 (x68 + 1)) x139000 x139001 x139002 x139003) else (some ((⟨#[]⟩ : ByteArray), (⟨#[]⟩ : ByteArray), (⟨#[]⟩ : ByteArray), ([] : List ByteArray), 1)))) else (none)) else (none)) else (some (x139000, x139001, x139002, x139003, 0))
end
def version_Split.f (k : Nat) (a0 : ByteArray) : Option (ByteArray × ByteArray × ByteArray × List ByteArray × Int) := (strings_HasPrefix.f a0 (⟨#[118]⟩ : ByteArray)).bind fun t122 => (if t122 = true then (if 1 ≤ (a0.size : Int) then ((strings_Cut.f (a0.extract 1 a0.size) (⟨#[45]⟩ : ByteArray)).bind fun bt123 => ((octet_Parts.f bt123.1 46).bind fun t126 => (if (t126.length : Int) = 3 then (if 0 < (t126.length : Int) then ((number_May.f (rdOf ByteArray.empty t126 0)).bind fun t130 => (if t130 = true then (if 1 < (t126.length : Int) then ((number_May.f (rdOf ByteArray.empty t126 1)).bind fun t132 => (if t132 = true then (if 2 < (t126.length : Int) then ((number_May.f (rdOf ByteArray.empty t126 2)).bind fun t134 => (version_Split.j0 k bt123.2.1 bt123.2.2 t126 (!t134))) else (none)) else (version_Split.j0 k bt123.2.1 bt123.2.2 t126 true))) else (none)) else (version_Split.j0 k bt123.2.1 bt123.2.2 t126 true))) else (none)) else (version_Split.j0 k bt123.2.1 bt123.2.2 t126 true)))) else (none)) else (some ((⟨#[]⟩ : ByteArray), (⟨#[]⟩ : ByteArray), (⟨#[]⟩ : ByteArray), ([] : List ByteArray), 1)))
theorem version_Split.mono_l : ∀ k, (∀ y0 y1 y2 y3, LeO (version_Split.j0 k y0 y1 y2 y3) (version_Split.j0 (k + 1) y0 y1 y2 y3)) ∧ (∀ y0 y1 y2 y3 y4 y5 y6, LeO (version_Split.l0 k y0 y1 y2 y3 y4 y5 y6) (version_Split.l0 (k + 1) y0 y1 y2 y3 y4 y5 y6))
 | 0 => ⟨fun _ _ _ _ r h => by simp [version_Split.j0] at h, fun _ _ _ _ _ _ _ r h => by simp [version_Split.l0] at h⟩
 | k + 1 => by
  obtain ⟨ih0, ih1⟩ := version_Split.mono_l k
  refine ⟨?_, ?_⟩
  ·intro y0 y1 y2 y3
   unfold version_Split.j0
   repeat' first
   | (with_reducible exact ih0 _ _ _ _)
   | (with_reducible exact ih1 _ _ _ _ _ _ _)
   | (with_reducible exact version_word.mono _ _)
   | (with_reducible exact LeO.refl _)
   | (with_reducible exact LeO.none _)
   | (with_reducible refine LeO.ite ?_ ?_)
   | (with_reducible refine LeO.bind ?_ (fun _ => ?_))
   | exact ih0 _ _ _ _
   | exact ih1 _ _ _ _ _ _ _
   | exact version_word.mono _ _
   | exact LeO.none _
   | refine LeO.ite ?_ ?_
   | refine LeO.bind ?_ (fun _ => ?_)
  ·intro y0 y1 y2 y3 y4 y5 y6
   unfold version_Split.l0
   repeat' first
   | (with_reducible exact ih0 _ _ _ _)
   | (with_reducible exact ih1 _ _ _ _ _ _ _)
   | (with_reducible exact version_word.mono _ _)
   | (with_reducible exact LeO.refl _)
   | (with_reducible exact LeO.none _)
   | (with_reducible refine LeO.ite ?_ ?_)
   | (with_reducible refine LeO.bind ?_ (fun _ => ?_))
   | exact ih0 _ _ _ _
   | exact ih1 _ _ _ _ _ _ _
   | exact version_word.mono _ _
   | exact LeO.none _
   | refine LeO.ite ?_ ?_
   | refine LeO.bind ?_ (fun _ => ?_)
theorem version_Split.mono : ∀ a0 k, LeO (version_Split.f k a0) (version_Split.f (k + 1) a0) := by
 intro a0 k
 obtain ⟨ih0, ih1⟩ := version_Split.mono_l k
 unfold version_Split.f
 repeat' first
   | (with_reducible exact ih0 _ _ _ _)
   | (with_reducible exact ih1 _ _ _ _ _ _ _)
   | (with_reducible exact version_word.mono _ _)
   | (with_reducible exact LeO.refl _)
   | (with_reducible exact LeO.none _)
   | (with_reducible refine LeO.ite ?_ ?_)
   | (with_reducible refine LeO.bind ?_ (fun _ => ?_))
   | exact ih0 _ _ _ _
   | exact ih1 _ _ _ _ _ _ _
   | exact version_word.mono _ _
   | exact LeO.none _
   | refine LeO.ite ?_ ?_
   | refine LeO.bind ?_ (fun _ => ?_)
def version_Split.T7 : Bool × List (List Nat × List Nat) := (true, [([], []), ([0], [0]), ([1], [1]), ([], []), ([3], [3]), ([4], [4]), ([], []), ([6], [6]), ([7], [7]), ([2, 5, 8], [2, 5, 8]), ([], []), ([10, 9, 0, 1, 2, 3, 4, 5, 6, 7, 8, 9, 10], [9, 10])])
def version_Split.B7 : List Nat := [0, 1, 3, 0, 8, 24, 0, 64, 192, 511, 0, 2047]
theorem version_Split.tab7 : rtab .any (opsOf Tryd.f18 7) = version_Split.T7 := by kernel_rfl
theorem version_Split.bits7 : waitsOk version_Split.T7.2 version_Split.B7 = true := by kernel_rfl
set_option maxHeartbeats 8000000 in
set_option maxRecDepth 100000 in
theorem version_Split.calls (k : Nat) (a0 : ByteArray) (r1 : ByteArray) (r2 : ByteArray) (r3 : ByteArray) (r4 : List ByteArray) (r5 : Int) (w : World) (h : version_Split.f k a0 = some (r1, r2, r3, r4, r5)) :
  Calls Tryd.prog 18 #[.string a0] w fun e w' => ∃ v3_ : Value, e = .returned (.tuple #[.agg #[.string r1, .string r2, .string r3, v3_], .int .i64 r5]) ∧ Kd.R Kd.string 9 w' w.heap.size (fun _ => True) v3_ r4 ∧ Below w.heap.size w w' := by
 have hu36 := Tryd.underlying36
 have HB := am (Below.refl w.heap.size w)
 have H : ((strings_HasPrefix.f a0 (⟨#[118]⟩ : ByteArray)).bind fun t122 => (if t122 = true then (if 1 ≤ (a0.size : Int) then ((strings_Cut.f (a0.extract 1 a0.size) (⟨#[45]⟩ : ByteArray)).bind fun bt123 => ((octet_Parts.f bt123.1 46).bind fun t126 => (if (t126.length : Int) = 3 then (if 0 < (t126.length : Int) then ((number_May.f (rdOf ByteArray.empty t126 0)).bind fun t130 => (if t130 = true then (if 1 < (t126.length : Int) then ((number_May.f (rdOf ByteArray.empty t126 1)).bind fun t132 => (if t132 = true then (if 2 < (t126.length : Int) then ((number_May.f (rdOf ByteArray.empty t126 2)).bind fun t134 => (version_Split.j0 k bt123.2.1 bt123.2.2 t126 (!t134))) else (none)) else (version_Split.j0 k bt123.2.1 bt123.2.2 t126 true))) else (none)) else (version_Split.j0 k bt123.2.1 bt123.2.2 t126 true))) else (none)) else (version_Split.j0 k bt123.2.1 bt123.2.2 t126 true)))) else (none)) else (some ((⟨#[]⟩ : ByteArray), (⟨#[]⟩ : ByteArray), (⟨#[]⟩ : ByteArray), ([] : List ByteArray), 1)))) = some (r1, r2, r3, r4, r5) := h
 clear h
 replace H := Option.bind_eq_some_iff.mp H
 obtain ⟨t122, A20, H⟩ := H
 replace H : (if t122 = true then (if 1 ≤ (a0.size : Int) then ((strings_Cut.f (a0.extract 1 a0.size) (⟨#[45]⟩ : ByteArray)).bind fun bt123 => ((octet_Parts.f bt123.1 46).bind fun t126 => (if (t126.length : Int) = 3 then (if 0 < (t126.length : Int) then ((number_May.f (rdOf ByteArray.empty t126 0)).bind fun t130 => (if t130 = true then (if 1 < (t126.length : Int) then ((number_May.f (rdOf ByteArray.empty t126 1)).bind fun t132 => (if t132 = true then (if 2 < (t126.length : Int) then ((number_May.f (rdOf ByteArray.empty t126 2)).bind fun t134 => (version_Split.j0 k bt123.2.1 bt123.2.2 t126 (!t134))) else (none)) else (version_Split.j0 k bt123.2.1 bt123.2.2 t126 true))) else (none)) else (version_Split.j0 k bt123.2.1 bt123.2.2 t126 true))) else (none)) else (version_Split.j0 k bt123.2.1 bt123.2.2 t126 true)))) else (none)) else (some ((⟨#[]⟩ : ByteArray), (⟨#[]⟩ : ByteArray), (⟨#[]⟩ : ByteArray), ([] : List ByteArray), 1))) = some (r1, r2, r3, r4, r5) := H
 have A2 := Aside0.mk A20
 clear A20
 by_cases c3 : t122 = true
 ·subst c3
  have H1 : (if 1 ≤ (a0.size : Int) then ((strings_Cut.f (a0.extract 1 a0.size) (⟨#[45]⟩ : ByteArray)).bind fun bt123 => ((octet_Parts.f bt123.1 46).bind fun t126 => (if (t126.length : Int) = 3 then (if 0 < (t126.length : Int) then ((number_May.f (rdOf ByteArray.empty t126 0)).bind fun t130 => (if t130 = true then (if 1 < (t126.length : Int) then ((number_May.f (rdOf ByteArray.empty t126 1)).bind fun t132 => (if t132 = true then (if 2 < (t126.length : Int) then ((number_May.f (rdOf ByteArray.empty t126 2)).bind fun t134 => (version_Split.j0 k bt123.2.1 bt123.2.2 t126 (!t134))) else (none)) else (version_Split.j0 k bt123.2.1 bt123.2.2 t126 true))) else (none)) else (version_Split.j0 k bt123.2.1 bt123.2.2 t126 true))) else (none)) else (version_Split.j0 k bt123.2.1 bt123.2.2 t126 true)))) else (none)) = some (r1, r2, r3, r4, r5) := by rw [if_pos rfl] at H; exact H
  clear H
  have H := H1
  clear H1
  by_cases c4 : 1 ≤ (a0.size : Int)
  ·rw [if_pos c4] at H
   have c4b0 := eq_true c4
   have c4b1 : decide (1 ≤ (a0.size : Int)) = true := decide_eq_true c4
   clear c4
   replace H := Option.bind_eq_some_iff.mp H
   obtain ⟨⟨t123, t124, t125⟩, A50, H⟩ := H
   replace H : ((octet_Parts.f t123 46).bind fun t126 => (if (t126.length : Int) = 3 then (if 0 < (t126.length : Int) then ((number_May.f (rdOf ByteArray.empty t126 0)).bind fun t130 => (if t130 = true then (if 1 < (t126.length : Int) then ((number_May.f (rdOf ByteArray.empty t126 1)).bind fun t132 => (if t132 = true then (if 2 < (t126.length : Int) then ((number_May.f (rdOf ByteArray.empty t126 2)).bind fun t134 => (version_Split.j0 k t124 t125 t126 (!t134))) else (none)) else (version_Split.j0 k t124 t125 t126 true))) else (none)) else (version_Split.j0 k t124 t125 t126 true))) else (none)) else (version_Split.j0 k t124 t125 t126 true))) = some (r1, r2, r3, r4, r5) := H
   have A5 := Aside0.mk A50
   clear A50
   replace H := Option.bind_eq_some_iff.mp H
   obtain ⟨t126, A60, H⟩ := H
   replace H : (if (t126.length : Int) = 3 then (if 0 < (t126.length : Int) then ((number_May.f (rdOf ByteArray.empty t126 0)).bind fun t130 => (if t130 = true then (if 1 < (t126.length : Int) then ((number_May.f (rdOf ByteArray.empty t126 1)).bind fun t132 => (if t132 = true then (if 2 < (t126.length : Int) then ((number_May.f (rdOf ByteArray.empty t126 2)).bind fun t134 => (version_Split.j0 k t124 t125 t126 (!t134))) else (none)) else (version_Split.j0 k t124 t125 t126 true))) else (none)) else (version_Split.j0 k t124 t125 t126 true))) else (none)) else (version_Split.j0 k t124 t125 t126 true)) = some (r1, r2, r3, r4, r5) := H
   have A6 := Aside0.mk A60
   clear A60
   have HC7 := Aside0.mk H
   clear H
   go_enter Tryd.func18, Tryd.ntmps18
   go_upto_region 5 with (first | ((with_reducible refine gate_dst (N := 2) rfl ?_); refine box_event ?hg (N := 2) ?hd (cs := #[.string (⟨#[]⟩ : ByteArray), .string (⟨#[]⟩ : ByteArray), .string (⟨#[]⟩ : ByteArray), .slice none 0 0]) (t := 36) ?hr ?_; (case hd => rfl); (case hg => rfl); (case hr => first | (go_simp; done) | (go_simp; rfl)); intro gb121 hg w8 hbox hb; have BK121 := am (hbox); have GW121 := am ((gT hg HB.out)); have GE121 := am ((gT hg HB.out)); replace HB := am (sT HB.out hb); clear hb hbox hg) | ((with_reducible refine gate_callee (f := 29) rfl ?_); refine gL (some 12) Tryd.func29 #[.string a0, .string (⟨#[118]⟩ : ByteArray)] ?_; (with_reducible refine (strings_HasPrefix.calls a0 (⟨#[118]⟩ : ByteArray) true _ A2.out).mono ?_); rintro e w' ⟨rfl, ⟨nd, rfl⟩⟩; refine ⟨_, rfl, ?_⟩) | ((with_reducible refine gate_callee (f := 30) rfl ?_); refine gL (some 18) Tryd.func30 #[.string (a0.extract 1 a0.size), .string (⟨#[45]⟩ : ByteArray)] ?_; (with_reducible refine (strings_Cut.calls (a0.extract 1 a0.size) (⟨#[45]⟩ : ByteArray) t123 t124 t125 _ A5.out).mono ?_); rintro e w' ⟨rfl, ⟨nd, rfl⟩⟩; refine ⟨_, rfl, ?_⟩) | ((with_reducible refine gate_callee (f := 31) rfl ?_); refine gL (some 23) Tryd.func31 #[.string t123, .int .u8 46] ?_; (with_reducible refine (octet_Parts.calls t123 46 t126 _ A6.out).mono ?_); rintro e w9 ⟨v127, rfl, ho0, hb⟩; refine ⟨_, rfl, ?_⟩; have HO128 := am (Kd.R_lower ho0 (below_size (eT HB.out))); replace BK121 := am (bB BK121.out hb); replace HB := am (sT HB.out hb); (try clear hb); (try clear hb2); (try clear hk); (try clear hi); (try clear ho0)))
   (try simp only [Act.put, List.setIfInBounds_toArray, List.set_cons_zero, List.set_cons_succ])
   go_cut [47] (fun v47 wc => ∃ (kq : Nat) (x47_6 : Bool), v47 = .bool x47_6 ∧ Aside0 (version_Split.j0 kq t124 t125 t126 x47_6 = some (r1, r2, r3, r4, r5)) ∧ Aside0 (kq ≤ k) ∧ Aside0 (Kd.R Kd.string 9 wc w.heap.size (fun _ => True) v127 t126) ∧ Aside0 (wc.heap[gb121]? = some (.cells #[.string (⟨#[]⟩ : ByteArray), .string (⟨#[]⟩ : ByteArray), .string (⟨#[]⟩ : ByteArray), (.slice none 0 0)] 36 (0, 0))) ∧ Aside0 (Below w.heap.size w wc))
   case first =>
    have H := HC7.out
    clear HC7
    by_cases c10 : (t126.length : Int) = 3
    ·rw [if_pos c10] at H
     have c10b0 : ((t126.length : Int) == 3) = true := beq_iff_eq.mpr c10
     have c10b1 : ((t126.length : Int) != 3) = false := bne_eq_false_iff_eq.mpr c10
     clear c10
     (first | rw [c10b0] | (simp only [i64_w, i32_w]; rw [c10b0]) | skip)
     by_cases c11 : 0 < (t126.length : Int)
     ·rw [if_pos c11] at H
      have c11b0 : decide (0 < (t126.length : Int)) = true := decide_eq_true c11
      have c11b1 : decide (0 < t126.length) = true := decide_eq_true (by omega)
      clear c11
      replace H := Option.bind_eq_some_iff.mp H
      obtain ⟨t130, A120, H⟩ := H
      replace H : (if t130 = true then (if 1 < (t126.length : Int) then ((number_May.f (rdOf ByteArray.empty t126 1)).bind fun t132 => (if t132 = true then (if 2 < (t126.length : Int) then ((number_May.f (rdOf ByteArray.empty t126 2)).bind fun t134 => (version_Split.j0 k t124 t125 t126 (!t134))) else (none)) else (version_Split.j0 k t124 t125 t126 true))) else (none)) else (version_Split.j0 k t124 t125 t126 true)) = some (r1, r2, r3, r4, r5) := H
      have A12 := Aside0.mk A120
      clear A120
      by_cases c13 : t130 = true
      ·subst c13
       have H1 : (if 1 < (t126.length : Int) then ((number_May.f (rdOf ByteArray.empty t126 1)).bind fun t132 => (if t132 = true then (if 2 < (t126.length : Int) then ((number_May.f (rdOf ByteArray.empty t126 2)).bind fun t134 => (version_Split.j0 k t124 t125 t126 (!t134))) else (none)) else (version_Split.j0 k t124 t125 t126 true))) else (none)) = some (r1, r2, r3, r4, r5) := by rw [if_pos rfl] at H; exact H
       clear H
       have H := H1
       clear H1
       by_cases c14 : 1 < (t126.length : Int)
       ·rw [if_pos c14] at H
        have c14b0 : decide (1 < (t126.length : Int)) = true := decide_eq_true c14
        have c14b1 : decide (1 < t126.length) = true := decide_eq_true (by omega)
        clear c14
        replace H := Option.bind_eq_some_iff.mp H
        obtain ⟨t132, A150, H⟩ := H
        replace H : (if t132 = true then (if 2 < (t126.length : Int) then ((number_May.f (rdOf ByteArray.empty t126 2)).bind fun t134 => (version_Split.j0 k t124 t125 t126 (!t134))) else (none)) else (version_Split.j0 k t124 t125 t126 true)) = some (r1, r2, r3, r4, r5) := H
        have A15 := Aside0.mk A150
        clear A150
        by_cases c16 : t132 = true
        ·subst c16
         have H1 : (if 2 < (t126.length : Int) then ((number_May.f (rdOf ByteArray.empty t126 2)).bind fun t134 => (version_Split.j0 k t124 t125 t126 (!t134))) else (none)) = some (r1, r2, r3, r4, r5) := by rw [if_pos rfl] at H; exact H
         clear H
         have H := H1
         clear H1
         by_cases c17 : 2 < (t126.length : Int)
         ·rw [if_pos c17] at H
          have c17b0 : decide (2 < (t126.length : Int)) = true := decide_eq_true c17
          have c17b1 : decide (2 < t126.length) = true := decide_eq_true (by omega)
          clear c17
          replace H := Option.bind_eq_some_iff.mp H
          obtain ⟨t134, A180, H⟩ := H
          replace H : (version_Split.j0 k t124 t125 t126 (!t134)) = some (r1, r2, r3, r4, r5) := H
          have A18 := Aside0.mk A180
          clear A180
          have H' := Aside0.mk H
          clear H
          obtain ⟨Ao19, co19, eo19⟩ := Kd.R_slice HO128.out
          subst eo19
          have p129 : 0 ≤ (0 : Int) := (by omega)
          have q129 : 0 < (t126.length : Int) := of_decide_eq_true (by first | (with_reducible assumption) | assumption)
          obtain ⟨ad129, e129, hx129_0⟩ := Kd.at_string (Kd.R_reads' HO128.out).2.2 0 p129 q129
          cases e129
          have qi129 : (0 < t126.length) = True := eq_true (by omega)
          (try rw [show ((0 : Int)).toNat = 0 from rfl] at hx129_0)
          (try rw [Addr.add_zero'] at hx129_0)
          replace p129 := eq_true p129
          replace q129 := eq_true q129
          go_wp2_with (first | (go_at_call 32; (with_reducible refine (number_May.calls (rdOf ByteArray.empty t126 0) true _ A12.out).mono ?_); rintro e w20 ⟨rfl, hb⟩; replace HO128 := am (rB HO128.out hb); replace BK121 := am (bB BK121.out hb); replace HB := am (sT HB.out hb); (try clear hb); (try clear hb2); (try clear hk); (try clear hi); have p131 : 0 ≤ (1 : Int) := (by omega); have q131 : 1 < (t126.length : Int) := of_decide_eq_true (by first | (with_reducible assumption) | assumption); obtain ⟨ad131, e131, hx131_0⟩ := Kd.at_string (Kd.R_reads' HO128.out).2.2 1 p131 q131; obtain rfl : ad129 = ad131 := (by injection e131); (try simp only [show (1 : Int).toNat = 1 from rfl, Nat.reduceMul, Nat.reduceEqDiff, Go.Addr.add, ↓reduceIte] at hx131_0); have qi131 : (1 < t126.length) = True := eq_true (by omega); (try rw [show ((1 : Int)).toNat = 1 from rfl] at hx131_0); replace p131 := eq_true p131; replace q131 := eq_true q131) | (go_at_call 32; (with_reducible refine (number_May.calls (rdOf ByteArray.empty t126 1) true _ A15.out).mono ?_); rintro e w21 ⟨rfl, hb⟩; replace HO128 := am (rB HO128.out hb); replace BK121 := am (bB BK121.out hb); replace HB := am (sT HB.out hb); (try clear hb); (try clear hb2); (try clear hk); (try clear hi); have p133 : 0 ≤ (2 : Int) := (by omega); have q133 : 2 < (t126.length : Int) := of_decide_eq_true (by first | (with_reducible assumption) | assumption); obtain ⟨ad133, e133, hx133_0⟩ := Kd.at_string (Kd.R_reads' HO128.out).2.2 2 p133 q133; obtain rfl : ad129 = ad133 := (by injection e133); (try simp only [show (2 : Int).toNat = 2 from rfl, Nat.reduceMul, Nat.reduceEqDiff, Go.Addr.add, ↓reduceIte] at hx133_0); have qi133 : (2 < t126.length) = True := eq_true (by omega); (try rw [show ((2 : Int)).toNat = 2 from rfl] at hx133_0); replace p133 := eq_true p133; replace q133 := eq_true q133) | (go_at_call 32; (with_reducible refine (number_May.calls (rdOf ByteArray.empty t126 2) t134 _ A18.out).mono ?_); rintro e w22 ⟨rfl, hb⟩; replace HO128 := am (rB HO128.out hb); replace BK121 := am (bB BK121.out hb); replace HB := am (sT HB.out hb); (try clear hb); (try clear hb2); (try clear hk); (try clear hi)))
          go_meet
          case rel => exact ⟨_, (!t134), (by first | rfl | (simp; done) | (simp [*]; done)), H', ⟨by first | omega | exact Nat.le_refl _⟩, ⟨rT HO128.out⟩, ⟨bT BK121.out⟩, ⟨eT HB.out⟩⟩
         ·rw [if_neg c17] at H
          exact absurd H (by simp)
        ·replace c16 := Bool.eq_false_iff.mpr c16
         subst c16
         have H1 : (version_Split.j0 k t124 t125 t126 true) = some (r1, r2, r3, r4, r5) := by rw [if_neg (show ¬ (false = true) by decide)] at H; exact H
         clear H
         have H := H1
         clear H1
         have H' := Aside0.mk H
         clear H
         obtain ⟨Ao23, co23, eo23⟩ := Kd.R_slice HO128.out
         subst eo23
         have p129 : 0 ≤ (0 : Int) := (by omega)
         have q129 : 0 < (t126.length : Int) := of_decide_eq_true (by first | (with_reducible assumption) | assumption)
         obtain ⟨ad129, e129, hx129_0⟩ := Kd.at_string (Kd.R_reads' HO128.out).2.2 0 p129 q129
         cases e129
         have qi129 : (0 < t126.length) = True := eq_true (by omega)
         (try rw [show ((0 : Int)).toNat = 0 from rfl] at hx129_0)
         (try rw [Addr.add_zero'] at hx129_0)
         replace p129 := eq_true p129
         replace q129 := eq_true q129
         go_wp2_with (first | (go_at_call 32; (with_reducible refine (number_May.calls (rdOf ByteArray.empty t126 0) true _ A12.out).mono ?_); rintro e w24 ⟨rfl, hb⟩; replace HO128 := am (rB HO128.out hb); replace BK121 := am (bB BK121.out hb); replace HB := am (sT HB.out hb); (try clear hb); (try clear hb2); (try clear hk); (try clear hi); have p131 : 0 ≤ (1 : Int) := (by omega); have q131 : 1 < (t126.length : Int) := of_decide_eq_true (by first | (with_reducible assumption) | assumption); obtain ⟨ad131, e131, hx131_0⟩ := Kd.at_string (Kd.R_reads' HO128.out).2.2 1 p131 q131; obtain rfl : ad129 = ad131 := (by injection e131); (try simp only [show (1 : Int).toNat = 1 from rfl, Nat.reduceMul, Nat.reduceEqDiff, Go.Addr.add, ↓reduceIte] at hx131_0); have qi131 : (1 < t126.length) = True := eq_true (by omega); (try rw [show ((1 : Int)).toNat = 1 from rfl] at hx131_0); replace p131 := eq_true p131; replace q131 := eq_true q131) | (go_at_call 32; (with_reducible refine (number_May.calls (rdOf ByteArray.empty t126 1) false _ A15.out).mono ?_); rintro e w25 ⟨rfl, hb⟩; replace HO128 := am (rB HO128.out hb); replace BK121 := am (bB BK121.out hb); replace HB := am (sT HB.out hb); (try clear hb); (try clear hb2); (try clear hk); (try clear hi)))
         go_meet
         case rel => exact ⟨_, (true), (by first | rfl | (simp; done) | (simp [*]; done)), H', ⟨by first | omega | exact Nat.le_refl _⟩, ⟨rT HO128.out⟩, ⟨bT BK121.out⟩, ⟨eT HB.out⟩⟩
       ·rw [if_neg c14] at H
        exact absurd H (by simp)
      ·replace c13 := Bool.eq_false_iff.mpr c13
       subst c13
       have H1 : (version_Split.j0 k t124 t125 t126 true) = some (r1, r2, r3, r4, r5) := by rw [if_neg (show ¬ (false = true) by decide)] at H; exact H
       clear H
       have H := H1
       clear H1
       have H' := Aside0.mk H
       clear H
       obtain ⟨Ao26, co26, eo26⟩ := Kd.R_slice HO128.out
       subst eo26
       have p129 : 0 ≤ (0 : Int) := (by omega)
       have q129 : 0 < (t126.length : Int) := of_decide_eq_true (by first | (with_reducible assumption) | assumption)
       obtain ⟨ad129, e129, hx129_0⟩ := Kd.at_string (Kd.R_reads' HO128.out).2.2 0 p129 q129
       cases e129
       have qi129 : (0 < t126.length) = True := eq_true (by omega)
       (try rw [show ((0 : Int)).toNat = 0 from rfl] at hx129_0)
       (try rw [Addr.add_zero'] at hx129_0)
       replace p129 := eq_true p129
       replace q129 := eq_true q129
       go_wp2_with (first | (go_at_call 32; (with_reducible refine (number_May.calls (rdOf ByteArray.empty t126 0) false _ A12.out).mono ?_); rintro e w27 ⟨rfl, hb⟩; replace HO128 := am (rB HO128.out hb); replace BK121 := am (bB BK121.out hb); replace HB := am (sT HB.out hb); (try clear hb); (try clear hb2); (try clear hk); (try clear hi)))
       go_meet
       case rel => exact ⟨_, (true), (by first | rfl | (simp; done) | (simp [*]; done)), H', ⟨by first | omega | exact Nat.le_refl _⟩, ⟨rT HO128.out⟩, ⟨bT BK121.out⟩, ⟨eT HB.out⟩⟩
     ·rw [if_neg c11] at H
      exact absurd H (by simp)
    ·rw [if_neg c10] at H
     have c10b0 : ((t126.length : Int) == 3) = false := beq_eq_false_iff_ne.mpr c10
     have c10b1 : ((t126.length : Int) != 3) = true := bne_iff_ne.mpr c10
     (first | rw [c10b0] | (simp only [i64_w, i32_w]; rw [c10b0]) | skip)
     have H' := Aside0.mk H
     clear H
     obtain ⟨Ao28, co28, eo28⟩ := Kd.R_slice HO128.out
     subst eo28
     go_wp2
     go_meet
     case rel => exact ⟨_, (true), (by first | rfl | (simp; done) | (simp [*]; done)), H', ⟨by first | omega | exact Nat.le_refl _⟩, ⟨rT HO128.out⟩, ⟨bT BK121.out⟩, ⟨eT HB.out⟩⟩
   case rest =>
    clear HC7
    try clear c1
    try clear p1
    try clear q1
    try clear hx1
    try clear qi1
    try clear c2
    try clear p2
    try clear c3
    try clear c4
    try clear c4b0
    try clear c4b1
    try clear c10
    try clear c10b0
    try clear c10b1
    try clear c11
    try clear c11b0
    try clear c11b1
    try clear p12
    try clear q12
    try clear hx12
    try clear qi12
    try clear c13
    try clear p13
    try clear q13
    try clear hx13
    try clear qi13
    try clear c14
    try clear c14b0
    try clear c14b1
    try clear c16
    try clear c17
    try clear c17b0
    try clear c17b1
    try clear c18
    try clear hx129_0
    try clear hx131_0
    try clear hx133_0
    try clear p129
    try clear p131
    try clear p133
    try clear q129
    try clear q131
    try clear q133
    obtain ⟨kq, x47_6, rfl, HA, HJ6, HO_7, BK121, HB⟩ := hcut
    cases kq with
    | zero => exact absurd HA.out (by simp [version_Split.j0])
    | succ kj6 =>
     have H := HA.out
     clear HA
     simp only [version_Split.j0] at H
     by_cases c29 : x47_6 = true
     ·subst c29
      have H1 : (some ((⟨#[]⟩ : ByteArray), (⟨#[]⟩ : ByteArray), (⟨#[]⟩ : ByteArray), ([] : List ByteArray), 1)) = some (r1, r2, r3, r4, r5) := by rw [if_pos rfl] at H; exact H
      clear H
      have H := H1
      clear H1
      simp only [Option.some.injEq, Prod.mk.injEq] at H
      obtain ⟨rfl, rfl, rfl, rfl, rfl⟩ := H
      have hcz30_0 : wc.cell? ⟨gb121, 0, none⟩ = some (.string (⟨#[]⟩ : ByteArray)) := cT BK121 0
      have hcz30_1 : wc.cell? ⟨gb121, 1, none⟩ = some (.string (⟨#[]⟩ : ByteArray)) := cT BK121 1
      have hcz30_2 : wc.cell? ⟨gb121, 2, none⟩ = some (.string (⟨#[]⟩ : ByteArray)) := cT BK121 2
      have hcz30_3 : wc.cell? ⟨gb121, 3, none⟩ = some (.slice none 0 0) := cT BK121 3
      have hfz30_0 := blk_frozen BK121.out 0
      have hfz30_1 := blk_frozen BK121.out 1
      have hfz30_2 := blk_frozen BK121.out 2
      have hfz30_3 := blk_frozen BK121.out 3
      go_wp2
      refine bodyPost_ret (results_ct rfl _ _ gb121 36 #[.string (⟨#[]⟩ : ByteArray), .string (⟨#[]⟩ : ByteArray), .string (⟨#[]⟩ : ByteArray), .slice none 0 0] (0, 0) _ rfl (by (with_reducible repeat (first | apply bn | apply bd | apply ba)); refine blk_put (cs := #[.string (⟨#[]⟩ : ByteArray), .string (⟨#[]⟩ : ByteArray), .string (⟨#[]⟩ : ByteArray), .slice none 0 0]) ?_ 3 _ rfl; (with_reducible repeat (first | apply bn | apply bd | apply ba)); refine blk_put (cs := #[.string (⟨#[]⟩ : ByteArray), .string (⟨#[]⟩ : ByteArray), .string (⟨#[]⟩ : ByteArray), .slice none 0 0]) ?_ 2 _ rfl; (with_reducible repeat (first | apply bn | apply bd | apply ba)); refine blk_put (cs := #[.string (⟨#[]⟩ : ByteArray), .string (⟨#[]⟩ : ByteArray), .string (⟨#[]⟩ : ByteArray), .slice none 0 0]) ?_ 1 _ rfl; (with_reducible repeat (first | apply bn | apply bd | apply ba)); refine blk_put (cs := #[.string (⟨#[]⟩ : ByteArray), .string (⟨#[]⟩ : ByteArray), .string (⟨#[]⟩ : ByteArray), .slice none 0 0]) ?_ 0 _ rfl; exact bT BK121.out) Tryd.underlying36 rfl (by kernel_rfl)) rfl ?_
      exact ⟨_, by first | rfl | (simp [errW_none, errW_some] <;> rfl) | (simp [*, errW_none, errW_some] <;> rfl), by first | exact Kd.R_nil _ _ _ _ _ | exact Kd.N_nil _ _ _ _ _ | exact Kd.V_nil _ _ _ _ _ | exact Kd.Q_nil _ _ _ _ _ | exact Kd.S_nil _ _ _ _ _, by repeat (first | (with_reducible first | exact HB.out | apply pA | apply pN | apply pD | refine eU ?_ (by assumption)) | exact HB.out)⟩
     ·replace c29 := Bool.eq_false_iff.mpr c29
      subst c29
      have H1 : (if 0 < (t126.length : Int) then (if 1 < (t126.length : Int) then (if 2 < (t126.length : Int) then (if t125 = true then ((octet_Parts.f t124 46).bind fun t139 => (version_Split.l0 kj6 t139 (t139.length : Int) 0 (rdOf ByteArray.empty t126 0) (rdOf ByteArray.empty t126 1) (rdOf ByteArray.empty t126 2) t139)) else (some (rdOf ByteArray.empty t126 0, rdOf ByteArray.empty t126 1, rdOf ByteArray.empty t126 2, ([] : List ByteArray), 0))) else (none)) else (none)) else (none)) = some (r1, r2, r3, r4, r5) := by rw [if_neg (show ¬ (false = true) by decide)] at H; exact H
      clear H
      have H := H1
      clear H1
      by_cases c31 : 0 < (t126.length : Int)
      ·rw [if_pos c31] at H
       have c31b0 : decide (0 < (t126.length : Int)) = true := decide_eq_true c31
       have c31b1 : decide (0 < t126.length) = true := decide_eq_true (by omega)
       clear c31
       by_cases c32 : 1 < (t126.length : Int)
       ·rw [if_pos c32] at H
        have c32b0 : decide (1 < (t126.length : Int)) = true := decide_eq_true c32
        have c32b1 : decide (1 < t126.length) = true := decide_eq_true (by omega)
        clear c32
        by_cases c33 : 2 < (t126.length : Int)
        ·rw [if_pos c33] at H
         have c33b0 : decide (2 < (t126.length : Int)) = true := decide_eq_true c33
         have c33b1 : decide (2 < t126.length) = true := decide_eq_true (by omega)
         clear c33
         by_cases c34 : t125 = true
         ·subst c34
          have H1 : ((octet_Parts.f t124 46).bind fun t139 => (version_Split.l0 kj6 t139 (t139.length : Int) 0 (rdOf ByteArray.empty t126 0) (rdOf ByteArray.empty t126 1) (rdOf ByteArray.empty t126 2) t139)) = some (r1, r2, r3, r4, r5) := by rw [if_pos rfl] at H; exact H
          clear H
          have H := H1
          clear H1
          replace H := Option.bind_eq_some_iff.mp H
          obtain ⟨t139, A350, H⟩ := H
          replace H : (version_Split.l0 kj6 t139 (t139.length : Int) 0 (rdOf ByteArray.empty t126 0) (rdOf ByteArray.empty t126 1) (rdOf ByteArray.empty t126 2) t139) = some (r1, r2, r3, r4, r5) := H
          have A35 := Aside0.mk A350
          clear A350
          have H' := Aside0.mk H
          clear H
          try go_wp2
          replace HO_7 := am (Kd.R_drew HO_7.out)
          replace BK121 := am (blk_drew BK121.out)
          replace HB := am (below_drew1 HB.out)
          obtain ⟨Ao37, co37, eo37⟩ := Kd.R_slice HO_7.out
          (first | subst eo37 | (injection eo37 with f1_ f2_ f3_; have f4_ := f1_.symm; have f5_ := f3_.symm; clear f1_ f2_ f3_; subst f4_; subst f5_))
          have p135 : 0 ≤ (0 : Int) := (by omega)
          have q135 : 0 < (t126.length : Int) := of_decide_eq_true (by first | (with_reducible assumption) | assumption)
          obtain ⟨ad135, e135, hx135_0⟩ := Kd.at_string (Kd.R_reads' HO_7.out).2.2 0 p135 q135
          cases e135
          have qi135 : (0 < t126.length) = True := eq_true (by omega)
          (try rw [show ((0 : Int)).toNat = 0 from rfl] at hx135_0)
          (try rw [Addr.add_zero'] at hx135_0)
          replace p135 := eq_true p135
          replace q135 := eq_true q135
          have p136 : 0 ≤ (1 : Int) := (by omega)
          have q136 : 1 < (t126.length : Int) := of_decide_eq_true (by first | (with_reducible assumption) | assumption)
          obtain ⟨ad136, e136, hx136_0⟩ := Kd.at_string (Kd.R_reads' HO_7.out).2.2 1 p136 q136
          obtain rfl : ad135 = ad136 := (by injection e136)
          (try simp only [show (1 : Int).toNat = 1 from rfl, Nat.reduceMul, Nat.reduceEqDiff, Go.Addr.add, ↓reduceIte] at hx136_0)
          have qi136 : (1 < t126.length) = True := eq_true (by omega)
          (try rw [show ((1 : Int)).toNat = 1 from rfl] at hx136_0)
          replace p136 := eq_true p136
          replace q136 := eq_true q136
          have p137 : 0 ≤ (2 : Int) := (by omega)
          have q137 : 2 < (t126.length : Int) := of_decide_eq_true (by first | (with_reducible assumption) | assumption)
          obtain ⟨ad137, e137, hx137_0⟩ := Kd.at_string (Kd.R_reads' HO_7.out).2.2 2 p137 q137
          obtain rfl : ad135 = ad137 := (by injection e137)
          (try simp only [show (2 : Int).toNat = 2 from rfl, Nat.reduceMul, Nat.reduceEqDiff, Go.Addr.add, ↓reduceIte] at hx137_0)
          have qi137 : (2 < t126.length) = True := eq_true (by omega)
          (try rw [show ((2 : Int)).toNat = 2 from rfl] at hx137_0)
          replace p137 := eq_true p137
          replace q137 := eq_true q137
          refine start_ (n := 12) (S := fun w' => w'.cell? ad135 = some (.string (rdOf ByteArray.empty t126 0)) ∧ w'.cell? ⟨ad135.block, ad135.off + 1, none⟩ = some (.string (rdOf ByteArray.empty t126 1)) ∧ w'.cell? ⟨ad135.block, ad135.off + 2, none⟩ = some (.string (rdOf ByteArray.empty t126 2))) (ds := []) (bA 12 0) (by kernel_rfl) rfl (by kernel_rfl) ⟨hx135_0, hx136_0, hx137_0⟩ (fun hHeld => ?_); refine with_tabW version_Split.tab7 version_Split.bits7 (fun HT_ HW_ => ?_)
          generalize wc.drew = w36 at HO_7 BK121 HB hx135_0 hx136_0 hx137_0 hHeld ⊢
          refine pT 0 49 (bA 12 1) HT_.out ?_
          refine pT 1 50 (bA 12 3) HT_.out ?_
          refine pT 3 52 (bA 12 11) HT_.out ?_
          refine pT 4 53 (bA 12 27) HT_.out ?_
          refine pT 6 55 (bA 12 91) HT_.out ?_
          refine pT 7 56 (bA 12 219) HT_.out ?_
          refine tT 2 51 (bA 12 223) HT_.out HW_.out hHeld ?_ (hy := by rintro w' ⟨s0, s1, s2⟩; go_simp; with_reducible rfl)
          refine tT 5 54 (bA 12 255) HT_.out HW_.out hHeld ?_ (hy := by rintro w' ⟨s0, s1, s2⟩; go_simp; with_reducible rfl)
          refine tT 8 57 (bA 12 511) HT_.out HW_.out hHeld ?_ (hy := by rintro w' ⟨s0, s1, s2⟩; go_simp; with_reducible rfl)
          refine pT 9 58 (bA 12 1023) HT_.out ?_
          refine oT 10 (bA 12 2047) HT_.out fun K hK => ?_
          refine box_step ?hg (N := 8) ?hd (cs := #[.string (⟨#[]⟩ : ByteArray), .string (⟨#[]⟩ : ByteArray), .string (⟨#[]⟩ : ByteArray), .slice none 0 0]) (t := 36) ?hr ?_; (case hd => rfl); (case hg => rfl); (case hr => first | (go_simp; done) | (go_simp; rfl))
          intro gb138 hg w38 hbox hb
          have HS0_ := (hb.cell (World.block_lt_of_cell? _ _ (hHeld.1))).trans (hHeld.1)
          have HS1_ := (hb.cell (World.block_lt_of_cell? _ _ (hHeld.2.1))).trans (hHeld.2.1)
          have HS2_ := (hb.cell (World.block_lt_of_cell? _ _ (hHeld.2.2))).trans (hHeld.2.2)
          replace HO_7 := am (rB HO_7.out hb)
          have BK138 := am (hbox)
          have GW138 := am ((gT hg HB.out))
          have GE138 := am ((gT hg HB.out))
          have NB121_138 := am ((nT BK121.out hg))
          have NB138_121 := am ((mT BK121.out hg))
          replace BK121 := am (bB BK121.out hb)
          replace HB := am (sT HB.out hb)
          clear hb hbox hg
          refine hK.out _ _ ⟨HS0_, HS1_, HS2_⟩ (fun hHeld => ?_)
          clear hK K
          refine mN 8 ?_
          refine oT 11 (bA 12 4095) HT_.out fun K hK => ?_
          have hs39 : w38.cell? ⟨gb138, 0, none⟩ = some (.string (⟨#[]⟩ : ByteArray)) := cT BK138 0
          have hfs39 := blk_frozen BK138.out 0
          have hns39_0 := NB121_138.out
          have hms39_0 := NB138_121.out
          have hs40 : w38.cell? ⟨gb138, 1, none⟩ = some (.string (⟨#[]⟩ : ByteArray)) := cT BK138 1
          have hfs40 := blk_frozen BK138.out 1
          have hns40_0 := NB121_138.out
          have hms40_0 := NB138_121.out
          have hs41 : w38.cell? ⟨gb138, 2, none⟩ = some (.string (⟨#[]⟩ : ByteArray)) := cT BK138 2
          have hfs41 := blk_frozen BK138.out 2
          have hns41_0 := NB121_138.out
          have hms41_0 := NB138_121.out
          have hs42 : w38.cell? ⟨gb138, 3, none⟩ = some (.slice none 0 0) := cT BK138 3
          have hfs42 := blk_frozen BK138.out 3
          have hns42_0 := NB121_138.out
          have hms42_0 := NB138_121.out
          refine skip_ (w1 := ?_) (by rfl) rfl ?_ ?_
          rotate_left
          ·go_simp
           rfl
          refine hK.out _ _ ⟨((cell_far (p := ⟨gb138, _, none⟩) (by first | exact Kd.own_blk (Kd.R_ne HO_7.out BK138.out (by decide)) | (rw [add_block]; exact Kd.own_blk (Kd.R_ne HO_7.out BK138.out (by decide))) | (show (Addr.add _ _).block ≠ _; rw [add_block]; exact Kd.own_blk (Kd.R_ne HO_7.out BK138.out (by decide))) | (dsimp only; exact Kd.own_blk (Kd.R_ne HO_7.out BK138.out (by decide)))) _).trans (((cell_far (p := ⟨gb138, _, none⟩) (by first | exact Kd.own_blk (Kd.R_ne HO_7.out BK138.out (by decide)) | (rw [add_block]; exact Kd.own_blk (Kd.R_ne HO_7.out BK138.out (by decide))) | (show (Addr.add _ _).block ≠ _; rw [add_block]; exact Kd.own_blk (Kd.R_ne HO_7.out BK138.out (by decide))) | (dsimp only; exact Kd.own_blk (Kd.R_ne HO_7.out BK138.out (by decide)))) _).trans (((cell_far (p := ⟨gb138, _, none⟩) (by first | exact Kd.own_blk (Kd.R_ne HO_7.out BK138.out (by decide)) | (rw [add_block]; exact Kd.own_blk (Kd.R_ne HO_7.out BK138.out (by decide))) | (show (Addr.add _ _).block ≠ _; rw [add_block]; exact Kd.own_blk (Kd.R_ne HO_7.out BK138.out (by decide))) | (dsimp only; exact Kd.own_blk (Kd.R_ne HO_7.out BK138.out (by decide)))) _).trans (((cell_far (p := ⟨gb138, _, none⟩) (by first | exact Kd.own_blk (Kd.R_ne HO_7.out BK138.out (by decide)) | (rw [add_block]; exact Kd.own_blk (Kd.R_ne HO_7.out BK138.out (by decide))) | (show (Addr.add _ _).block ≠ _; rw [add_block]; exact Kd.own_blk (Kd.R_ne HO_7.out BK138.out (by decide))) | (dsimp only; exact Kd.own_blk (Kd.R_ne HO_7.out BK138.out (by decide)))) _).trans (hHeld.1)))))))), ((cell_far (p := ⟨gb138, _, none⟩) (by first | exact Kd.own_blk (Kd.R_ne HO_7.out BK138.out (by decide)) | (rw [add_block]; exact Kd.own_blk (Kd.R_ne HO_7.out BK138.out (by decide))) | (show (Addr.add _ _).block ≠ _; rw [add_block]; exact Kd.own_blk (Kd.R_ne HO_7.out BK138.out (by decide))) | (dsimp only; exact Kd.own_blk (Kd.R_ne HO_7.out BK138.out (by decide)))) _).trans (((cell_far (p := ⟨gb138, _, none⟩) (by first | exact Kd.own_blk (Kd.R_ne HO_7.out BK138.out (by decide)) | (rw [add_block]; exact Kd.own_blk (Kd.R_ne HO_7.out BK138.out (by decide))) | (show (Addr.add _ _).block ≠ _; rw [add_block]; exact Kd.own_blk (Kd.R_ne HO_7.out BK138.out (by decide))) | (dsimp only; exact Kd.own_blk (Kd.R_ne HO_7.out BK138.out (by decide)))) _).trans (((cell_far (p := ⟨gb138, _, none⟩) (by first | exact Kd.own_blk (Kd.R_ne HO_7.out BK138.out (by decide)) | (rw [add_block]; exact Kd.own_blk (Kd.R_ne HO_7.out BK138.out (by decide))) | (show (Addr.add _ _).block ≠ _; rw [add_block]; exact Kd.own_blk (Kd.R_ne HO_7.out BK138.out (by decide))) | (dsimp only; exact Kd.own_blk (Kd.R_ne HO_7.out BK138.out (by decide)))) _).trans (((cell_far (p := ⟨gb138, _, none⟩) (by first | exact Kd.own_blk (Kd.R_ne HO_7.out BK138.out (by decide)) | (rw [add_block]; exact Kd.own_blk (Kd.R_ne HO_7.out BK138.out (by decide))) | (show (Addr.add _ _).block ≠ _; rw [add_block]; exact Kd.own_blk (Kd.R_ne HO_7.out BK138.out (by decide))) | (dsimp only; exact Kd.own_blk (Kd.R_ne HO_7.out BK138.out (by decide)))) _).trans (hHeld.2.1)))))))), ((cell_far (p := ⟨gb138, _, none⟩) (by first | exact Kd.own_blk (Kd.R_ne HO_7.out BK138.out (by decide)) | (rw [add_block]; exact Kd.own_blk (Kd.R_ne HO_7.out BK138.out (by decide))) | (show (Addr.add _ _).block ≠ _; rw [add_block]; exact Kd.own_blk (Kd.R_ne HO_7.out BK138.out (by decide))) | (dsimp only; exact Kd.own_blk (Kd.R_ne HO_7.out BK138.out (by decide)))) _).trans (((cell_far (p := ⟨gb138, _, none⟩) (by first | exact Kd.own_blk (Kd.R_ne HO_7.out BK138.out (by decide)) | (rw [add_block]; exact Kd.own_blk (Kd.R_ne HO_7.out BK138.out (by decide))) | (show (Addr.add _ _).block ≠ _; rw [add_block]; exact Kd.own_blk (Kd.R_ne HO_7.out BK138.out (by decide))) | (dsimp only; exact Kd.own_blk (Kd.R_ne HO_7.out BK138.out (by decide)))) _).trans (((cell_far (p := ⟨gb138, _, none⟩) (by first | exact Kd.own_blk (Kd.R_ne HO_7.out BK138.out (by decide)) | (rw [add_block]; exact Kd.own_blk (Kd.R_ne HO_7.out BK138.out (by decide))) | (show (Addr.add _ _).block ≠ _; rw [add_block]; exact Kd.own_blk (Kd.R_ne HO_7.out BK138.out (by decide))) | (dsimp only; exact Kd.own_blk (Kd.R_ne HO_7.out BK138.out (by decide)))) _).trans (((cell_far (p := ⟨gb138, _, none⟩) (by first | exact Kd.own_blk (Kd.R_ne HO_7.out BK138.out (by decide)) | (rw [add_block]; exact Kd.own_blk (Kd.R_ne HO_7.out BK138.out (by decide))) | (show (Addr.add _ _).block ≠ _; rw [add_block]; exact Kd.own_blk (Kd.R_ne HO_7.out BK138.out (by decide))) | (dsimp only; exact Kd.own_blk (Kd.R_ne HO_7.out BK138.out (by decide)))) _).trans (hHeld.2.2))))))))⟩ (fun hHeld => ?_)
          clear hK K
          refine done_ (done_of HT_.out (by kernel_rfl)) ?_
          try go_wp2_with (first | ((with_reducible refine gate_callee (f := 31) rfl ?_); refine gL (some 63) Tryd.func31 #[.string t124, .int .u8 46] ?_; (with_reducible refine (octet_Parts.calls t124 46 t139 _ A35.out).mono ?_); rintro e w43 ⟨v140, rfl, ho0, hb⟩; refine ⟨_, rfl, ?_⟩; have HO141 := am (Kd.R_lower (Kd.R_new' ho0 (Kd.R_lt (by (with_reducible repeat (first | apply Kd.R_alloc | apply Kd.R_drewN | apply Kd.R_drew)); exact (Kd.R_mono (Kd.R_far (p := ⟨gb138, 3, none⟩) (Kd.R_far (p := ⟨gb138, 2, none⟩) (Kd.R_far (p := ⟨gb138, 1, none⟩) (Kd.R_far (p := ⟨gb138, 0, none⟩) (Kd.R_types HO_7.out BK138.out (by decide)) (fun _ hk => hk.2) (.string (rdOf ByteArray.empty t126 0))) (fun _ hk => hk.2) (.string (rdOf ByteArray.empty t126 1))) (fun _ hk => hk.2) (.string (rdOf ByteArray.empty t126 2))) (fun _ hk => hk.2) (.slice none 0 0)) (fun _ h_ => h_.1))))) (below_size (by repeat (first | (with_reducible first | exact HB.out | apply pA | apply pN | apply pD | refine eU ?_ (by assumption)) | exact HB.out)))); replace BK121 := am (blk_below (g := gb121) (o := .cells #[.string (⟨#[]⟩ : ByteArray), .string (⟨#[]⟩ : ByteArray), .string (⟨#[]⟩ : ByteArray), .slice none 0 0] 36 (0, 0)) (by (with_reducible repeat (first | apply bn | apply bd | apply ba)); refine blk_far ?_ NB121_138.out _; (with_reducible repeat (first | apply bn | apply bd | apply ba)); refine blk_far ?_ NB121_138.out _; (with_reducible repeat (first | apply bn | apply bd | apply ba)); refine blk_far ?_ NB121_138.out _; (with_reducible repeat (first | apply bn | apply bd | apply ba)); refine blk_far ?_ NB121_138.out _; exact bT BK121.out) hb); replace HO_7 := am (Kd.R_elder' (by (with_reducible repeat (first | apply Kd.R_alloc | apply Kd.R_drewN | apply Kd.R_drew)); exact (Kd.R_mono (Kd.R_far (p := ⟨gb138, 3, none⟩) (Kd.R_far (p := ⟨gb138, 2, none⟩) (Kd.R_far (p := ⟨gb138, 1, none⟩) (Kd.R_far (p := ⟨gb138, 0, none⟩) (Kd.R_types HO_7.out BK138.out (by decide)) (fun _ hk => hk.2) (.string (rdOf ByteArray.empty t126 0))) (fun _ hk => hk.2) (.string (rdOf ByteArray.empty t126 1))) (fun _ hk => hk.2) (.string (rdOf ByteArray.empty t126 2))) (fun _ hk => hk.2) (.slice none 0 0)) (fun _ h_ => h_.1))) (Kd.R_base ho0) hb); replace HB := am (below_step (by repeat (first | (with_reducible first | exact HB.out | apply pA | apply pN | apply pD | refine eU ?_ (by assumption)) | exact HB.out)) hb); replace BK138 := am (blk_below (g := gb138) (o := .cells #[.string (rdOf ByteArray.empty t126 0), .string (rdOf ByteArray.empty t126 1), .string (rdOf ByteArray.empty t126 2), .slice none 0 0] 36 (0, 0)) (by (with_reducible repeat (first | apply bn | apply bd | apply ba)); refine blk_put (cs := #[.string (rdOf ByteArray.empty t126 0), .string (rdOf ByteArray.empty t126 1), .string (rdOf ByteArray.empty t126 2), .slice none 0 0]) ?_ 3 _ rfl; (with_reducible repeat (first | apply bn | apply bd | apply ba)); refine blk_put (cs := #[.string (rdOf ByteArray.empty t126 0), .string (rdOf ByteArray.empty t126 1), .string (⟨#[]⟩ : ByteArray), .slice none 0 0]) ?_ 2 _ rfl; (with_reducible repeat (first | apply bn | apply bd | apply ba)); refine blk_put (cs := #[.string (rdOf ByteArray.empty t126 0), .string (⟨#[]⟩ : ByteArray), .string (⟨#[]⟩ : ByteArray), .slice none 0 0]) ?_ 1 _ rfl; (with_reducible repeat (first | apply bn | apply bd | apply ba)); refine blk_put (cs := #[.string (⟨#[]⟩ : ByteArray), .string (⟨#[]⟩ : ByteArray), .string (⟨#[]⟩ : ByteArray), .slice none 0 0]) ?_ 0 _ rfl; exact bT BK138.out) hb); (try clear hb); (try clear hb2); (try clear hk); (try clear hi); (try clear ho0); obtain ⟨Ao44, co44, eo44⟩ := Kd.R_slice HO141.out; subst eo44; have hnb45 := NB138_121.out; have hnc45 := NB121_138.out; have hcz46_0 : w43.cell? ⟨gb138, 0, none⟩ = some (.string (rdOf ByteArray.empty t126 0)) := cT BK138 0; have hcz46_1 : w43.cell? ⟨gb138, 1, none⟩ = some (.string (rdOf ByteArray.empty t126 1)) := cT BK138 1; have hcz46_2 : w43.cell? ⟨gb138, 2, none⟩ = some (.string (rdOf ByteArray.empty t126 2)) := cT BK138 2; have hcz46_3 : w43.cell? ⟨gb138, 3, none⟩ = some (.slice none 0 0) := cT BK138 3; have hfz46_0 := blk_frozen BK138.out 0; have hfz46_1 := blk_frozen BK138.out 1; have hfz46_2 := blk_frozen BK138.out 2; have hfz46_3 := blk_frozen BK138.out 3))
          go_loopg [68] kj6 (fun kq v68 w' => ∃ (x68_2 : Int) (x122000_2 : ByteArray) (x122001_2 : ByteArray) (x122002_2 : ByteArray), v68 = .int .i64 x68_2 ∧ Aside0 (version_Split.l0 kq t139 (t139.length : Int) x68_2 (rdOf ByteArray.empty t126 0) (rdOf ByteArray.empty t126 1) (rdOf ByteArray.empty t126 2) t139 = some (r1, r2, r3, r4, r5)) ∧ Aside0 (kq ≤ kj6) ∧ Aside0 (Kd.R Kd.string 9 w' w.heap.size (fun _ => True) (.slice Ao44 t139.length co44) t139) ∧ Aside0 (Kd.R Kd.string 9 w' w.heap.size (fun _ => True) (.slice Ao44 t139.length co44) t139) ∧ Aside0 (w'.heap[gb121]? = some (.cells #[.string x122000_2, .string x122001_2, .string x122002_2, (.slice none 0 0)] 36 (0, 0))) ∧ Aside0 (w'.heap[gb138]? = some (.cells #[.string (rdOf ByteArray.empty t126 0), .string (rdOf ByteArray.empty t126 1), .string (rdOf ByteArray.empty t126 2), (.slice Ao44 t139.length co44)] 36 (0, 0))) ∧ Aside0 (Below w.heap.size w w'))
          case atStart => exact ⟨(0), ((⟨#[]⟩ : ByteArray)), ((⟨#[]⟩ : ByteArray)), ((⟨#[]⟩ : ByteArray)), (by first | rfl | (simp; done) | (simp [*]; done)), H', ⟨Nat.le_refl _⟩, ⟨by (with_reducible repeat (first | apply Kd.R_alloc | apply Kd.R_drewN | apply Kd.R_drew)); exact Kd.R_mono (Kd.R_far (p := ⟨gb138, 3, none⟩) (Kd.R_types HO141.out BK138.out (by decide)) (fun _ hk => hk.2) (.slice Ao44 t139.length co44)) (fun _ hk => trivial)⟩, ⟨by (with_reducible repeat (first | apply Kd.R_alloc | apply Kd.R_drewN | apply Kd.R_drew)); exact Kd.R_mono (Kd.R_far (p := ⟨gb138, 3, none⟩) (Kd.R_types HO141.out BK138.out (by decide)) (fun _ hk => hk.2) (.slice Ao44 t139.length co44)) (fun _ hk => trivial)⟩, ⟨by (with_reducible repeat (first | apply bn | apply bd | apply ba)); refine blk_far ?_ NB121_138.out _; exact bT BK121.out⟩, ⟨by (with_reducible repeat (first | apply bn | apply bd | apply ba)); refine blk_put (cs := #[.string (rdOf ByteArray.empty t126 0), .string (rdOf ByteArray.empty t126 1), .string (rdOf ByteArray.empty t126 2), .slice none 0 0]) ?_ 3 _ rfl; exact bT BK138.out⟩, ⟨by repeat (first | (with_reducible first | exact HB.out | apply pA | apply pN | apply pD | refine eU ?_ (by assumption)) | exact HB.out)⟩⟩
          case round =>
           clear H'
           try clear c1
           try clear p1
           try clear q1
           try clear hx1
           try clear qi1
           try clear c2
           try clear p2
           try clear c3
           try clear c4
           try clear c4b0
           try clear c4b1
           try clear c10
           try clear c10b0
           try clear c10b1
           try clear c11
           try clear c11b0
           try clear c11b1
           try clear p12
           try clear q12
           try clear hx12
           try clear qi12
           try clear c13
           try clear p13
           try clear q13
           try clear hx13
           try clear qi13
           try clear c14
           try clear c14b0
           try clear c14b1
           try clear c16
           try clear c17
           try clear c17b0
           try clear c17b1
           try clear c18
           try clear c29
           try clear c30
           try clear c31
           try clear c31b0
           try clear c31b1
           try clear c32
           try clear c32b0
           try clear c32b1
           try clear c33
           try clear c33b0
           try clear c33b1
           try clear c34
           try clear c45
           try clear hcz30_0
           try clear hcz30_1
           try clear hcz30_2
           try clear hcz30_3
           try clear hcz46_0
           try clear hcz46_1
           try clear hcz46_2
           try clear hcz46_3
           try clear hfz30_0
           try clear hfz30_1
           try clear hfz30_2
           try clear hfz30_3
           try clear hfz46_0
           try clear hfz46_1
           try clear hfz46_2
           try clear hfz46_3
           try clear hx129_0
           try clear hx131_0
           try clear hx133_0
           try clear hx135_0
           try clear hx136_0
           try clear hx137_0
           try clear p1
           try clear p12
           try clear p129
           try clear p13
           try clear p131
           try clear p133
           try clear p135
           try clear p136
           try clear p137
           try clear p2
           try clear q1
           try clear q12
           try clear q129
           try clear q13
           try clear q131
           try clear q133
           try clear q135
           try clear q136
           try clear q137
           obtain ⟨x68_2, x122000_2, x122001_2, x122002_2, rfl, HA, HK2, HO_66, HO_139003, BK121, BK138, HB⟩ := hrel
           cases gk with
           | zero => exact absurd HA.out (by simp [version_Split.l0])
           | succ k2 =>
            have H := HA.out
            clear HA
            simp only [version_Split.l0] at H
            by_cases c47 : x68_2 < (t139.length : Int)
            ·rw [if_pos c47] at H
             have c47b0 : decide (x68_2 < (t139.length : Int)) = true := decide_eq_true c47
             clear c47
             by_cases c48 : 0 ≤ x68_2
             ·rw [if_pos c48] at H
              have c48b0 : decide (0 ≤ x68_2) = true := decide_eq_true c48
              clear c48
              by_cases c49 : x68_2 < (t139.length : Int)
              ·rw [if_pos c49] at H
               have c49b0 : decide (x68_2 < (t139.length : Int)) = true := decide_eq_true c49
               clear c49
               replace H := Option.bind_eq_some_iff.mp H
               obtain ⟨t143, A500, H⟩ := H
               replace H : (if t143 = true then (version_Split.l0 k2 t139 (t139.length : Int) (wrap64 (x68_2 + 1)) (rdOf ByteArray.empty t126 0) (rdOf ByteArray.empty t126 1) (rdOf ByteArray.empty t126 2) t139) else (some ((⟨#[]⟩ : ByteArray), (⟨#[]⟩ : ByteArray), (⟨#[]⟩ : ByteArray), ([] : List ByteArray), 1))) = some (r1, r2, r3, r4, r5) := H
               have A50 := Aside0.mk A500
               clear A500
               by_cases c51 : t143 = true
               ·subst c51
                have H1 : (version_Split.l0 k2 t139 (t139.length : Int) (wrap64 (x68_2 + 1)) (rdOf ByteArray.empty t126 0) (rdOf ByteArray.empty t126 1) (rdOf ByteArray.empty t126 2) t139) = some (r1, r2, r3, r4, r5) := by rw [if_pos rfl] at H; exact H
                clear H
                have H := H1
                clear H1
                have H' := Aside0.mk H
                clear H
                have p142 : 0 ≤ (x68_2 : Int) := of_decide_eq_true (by first | (with_reducible assumption) | assumption)
                have q142 : x68_2 < (t139.length : Int) := of_decide_eq_true (by first | (with_reducible assumption) | assumption)
                obtain ⟨ad142, e142, hx142_0⟩ := Kd.at_string (Kd.R_reads' HO_66.out).2.2 x68_2 p142 q142
                cases e142
                replace p142 := eq_true p142
                replace q142 := eq_true q142
                go_wp2_with (first | ((with_reducible refine gate_callee (f := 33) rfl ?_); refine gL (some 73) Tryd.func33 #[.string (rdOf ByteArray.empty t139 x68_2)] ?_; (with_reducible refine (version_word.calls k2 (rdOf ByteArray.empty t139 x68_2) true _ A50.out).mono ?_); rintro e w52 ⟨rfl, hb⟩; refine ⟨_, rfl, ?_⟩; replace HO_66 := am (rB HO_66.out hb); replace HO_139003 := am (rB HO_139003.out hb); replace BK121 := am (bB BK121.out hb); replace BK138 := am (bB BK138.out hb); replace HB := am (sT HB.out hb); (try clear hb); (try clear hb2); (try clear hk); (try clear hi)))
                go_roundg k2
                case measure => have := HJ6.out; have := HK2.out; omega
                case rel => exact ⟨(wrap64 (x68_2 + 1)), (x122000_2), (x122001_2), (x122002_2), (by first | rfl | (simp; done) | (simp [*]; done)), H', ⟨by have := HJ6.out; have := HK2.out; omega⟩, ⟨rT HO_66.out⟩, ⟨rT HO_139003.out⟩, ⟨bT BK121.out⟩, ⟨bT BK138.out⟩, ⟨eT HB.out⟩⟩
               ·replace c51 := Bool.eq_false_iff.mpr c51
                subst c51
                have H1 : (some ((⟨#[]⟩ : ByteArray), (⟨#[]⟩ : ByteArray), (⟨#[]⟩ : ByteArray), ([] : List ByteArray), 1)) = some (r1, r2, r3, r4, r5) := by rw [if_neg (show ¬ (false = true) by decide)] at H; exact H
                clear H
                have H := H1
                clear H1
                simp only [Option.some.injEq, Prod.mk.injEq] at H
                obtain ⟨rfl, rfl, rfl, rfl, rfl⟩ := H
                have p142 : 0 ≤ (x68_2 : Int) := of_decide_eq_true (by first | (with_reducible assumption) | assumption)
                have q142 : x68_2 < (t139.length : Int) := of_decide_eq_true (by first | (with_reducible assumption) | assumption)
                obtain ⟨ad142, e142, hx142_0⟩ := Kd.at_string (Kd.R_reads' HO_66.out).2.2 x68_2 p142 q142
                cases e142
                replace p142 := eq_true p142
                replace q142 := eq_true q142
                go_wp2_with (first | ((with_reducible refine gate_callee (f := 33) rfl ?_); refine gL (some 73) Tryd.func33 #[.string (rdOf ByteArray.empty t139 x68_2)] ?_; (with_reducible refine (version_word.calls k2 (rdOf ByteArray.empty t139 x68_2) false _ A50.out).mono ?_); rintro e w53 ⟨rfl, hb⟩; refine ⟨_, rfl, ?_⟩; replace HO_66 := am (rB HO_66.out hb); replace HO_139003 := am (rB HO_139003.out hb); replace BK121 := am (bB BK121.out hb); replace BK138 := am (bB BK138.out hb); replace HB := am (sT HB.out hb); (try clear hb); (try clear hb2); (try clear hk); (try clear hi); have hnb54 := NB121_138.out; have hnc54 := NB138_121.out; have hcz55_0 : w53.cell? ⟨gb121, 0, none⟩ = some (.string x122000_2) := cT BK121 0; have hcz55_1 : w53.cell? ⟨gb121, 1, none⟩ = some (.string x122001_2) := cT BK121 1; have hcz55_2 : w53.cell? ⟨gb121, 2, none⟩ = some (.string x122002_2) := cT BK121 2; have hcz55_3 : w53.cell? ⟨gb121, 3, none⟩ = some (.slice none 0 0) := cT BK121 3; have hfz55_0 := blk_frozen BK121.out 0; have hfz55_1 := blk_frozen BK121.out 1; have hfz55_2 := blk_frozen BK121.out 2; have hfz55_3 := blk_frozen BK121.out 3))
                refine bodyPost_ret (results_ct rfl _ _ gb121 36 #[.string (⟨#[]⟩ : ByteArray), .string (⟨#[]⟩ : ByteArray), .string (⟨#[]⟩ : ByteArray), .slice none 0 0] (0, 0) _ rfl (by (with_reducible repeat (first | apply bn | apply bd | apply ba)); refine blk_put (cs := #[.string (⟨#[]⟩ : ByteArray), .string (⟨#[]⟩ : ByteArray), .string (⟨#[]⟩ : ByteArray), .slice none 0 0]) ?_ 3 _ rfl; (with_reducible repeat (first | apply bn | apply bd | apply ba)); refine blk_put (cs := #[.string (⟨#[]⟩ : ByteArray), .string (⟨#[]⟩ : ByteArray), .string x122002_2, .slice none 0 0]) ?_ 2 _ rfl; (with_reducible repeat (first | apply bn | apply bd | apply ba)); refine blk_put (cs := #[.string (⟨#[]⟩ : ByteArray), .string x122001_2, .string x122002_2, .slice none 0 0]) ?_ 1 _ rfl; (with_reducible repeat (first | apply bn | apply bd | apply ba)); refine blk_put (cs := #[.string x122000_2, .string x122001_2, .string x122002_2, .slice none 0 0]) ?_ 0 _ rfl; exact bT BK121.out) Tryd.underlying36 rfl (by kernel_rfl)) rfl ?_
                exact ⟨_, by first | rfl | (simp [errW_none, errW_some] <;> rfl) | (simp [*, errW_none, errW_some] <;> rfl), by first | exact Kd.R_nil _ _ _ _ _ | exact Kd.N_nil _ _ _ _ _ | exact Kd.V_nil _ _ _ _ _ | exact Kd.Q_nil _ _ _ _ _ | exact Kd.S_nil _ _ _ _ _, by repeat (first | (with_reducible first | exact HB.out | apply pA | apply pN | apply pD | refine eU ?_ (by assumption)) | exact HB.out)⟩
              ·rw [if_neg c49] at H
               exact absurd H (by simp)
             ·rw [if_neg c48] at H
              exact absurd H (by simp)
            ·rw [if_neg c47] at H
             have c47b0 : decide (x68_2 < (t139.length : Int)) = false := decide_eq_false c47
             clear c47
             simp only [Option.some.injEq, Prod.mk.injEq] at H
             obtain ⟨rfl, rfl, rfl, rfl, rfl⟩ := H
             have hnb56 := NB138_121.out
             have hnc56 := NB121_138.out
             have hcz57_0 : wr.cell? ⟨gb138, 0, none⟩ = some (.string (rdOf ByteArray.empty t126 0)) := cT BK138 0
             have hcz57_1 : wr.cell? ⟨gb138, 1, none⟩ = some (.string (rdOf ByteArray.empty t126 1)) := cT BK138 1
             have hcz57_2 : wr.cell? ⟨gb138, 2, none⟩ = some (.string (rdOf ByteArray.empty t126 2)) := cT BK138 2
             have hcz57_3 : wr.cell? ⟨gb138, 3, none⟩ = some (.slice Ao44 t139.length co44) := cT BK138 3
             have hfz57_0 := blk_frozen BK138.out 0
             have hfz57_1 := blk_frozen BK138.out 1
             have hfz57_2 := blk_frozen BK138.out 2
             have hfz57_3 := blk_frozen BK138.out 3
             have hcz58_0 : wr.cell? ⟨gb121, 0, none⟩ = some (.string x122000_2) := cT BK121 0
             have hcz58_1 : wr.cell? ⟨gb121, 1, none⟩ = some (.string x122001_2) := cT BK121 1
             have hcz58_2 : wr.cell? ⟨gb121, 2, none⟩ = some (.string x122002_2) := cT BK121 2
             have hcz58_3 : wr.cell? ⟨gb121, 3, none⟩ = some (.slice none 0 0) := cT BK121 3
             have hfz58_0 := blk_frozen BK121.out 0
             have hfz58_1 := blk_frozen BK121.out 1
             have hfz58_2 := blk_frozen BK121.out 2
             have hfz58_3 := blk_frozen BK121.out 3
             go_wp2
             refine bodyPost_ret (results_ct rfl _ _ gb121 36 #[.string (rdOf ByteArray.empty t126 0), .string (rdOf ByteArray.empty t126 1), .string (rdOf ByteArray.empty t126 2), .slice Ao44 t139.length co44] (0, 0) _ rfl (by (with_reducible repeat (first | apply bn | apply bd | apply ba)); refine blk_put (cs := #[.string (rdOf ByteArray.empty t126 0), .string (rdOf ByteArray.empty t126 1), .string (rdOf ByteArray.empty t126 2), .slice none 0 0]) ?_ 3 _ rfl; (with_reducible repeat (first | apply bn | apply bd | apply ba)); refine blk_put (cs := #[.string (rdOf ByteArray.empty t126 0), .string (rdOf ByteArray.empty t126 1), .string x122002_2, .slice none 0 0]) ?_ 2 _ rfl; (with_reducible repeat (first | apply bn | apply bd | apply ba)); refine blk_put (cs := #[.string (rdOf ByteArray.empty t126 0), .string x122001_2, .string x122002_2, .slice none 0 0]) ?_ 1 _ rfl; (with_reducible repeat (first | apply bn | apply bd | apply ba)); refine blk_put (cs := #[.string x122000_2, .string x122001_2, .string x122002_2, .slice none 0 0]) ?_ 0 _ rfl; exact bT BK121.out) Tryd.underlying36 rfl (by kernel_rfl)) rfl ?_
             exact ⟨_, by first | rfl | (simp [errW_none, errW_some] <;> rfl) | (simp [*, errW_none, errW_some] <;> rfl), by (with_reducible repeat (first | apply Kd.R_alloc | apply Kd.R_drewN | apply Kd.R_drew)); exact Kd.R_mono (Kd.R_far (p := ⟨gb121, 3, none⟩) (Kd.R_far (p := ⟨gb121, 2, none⟩) (Kd.R_far (p := ⟨gb121, 1, none⟩) (Kd.R_far (p := ⟨gb121, 0, none⟩) (Kd.R_types HO_139003.out BK121.out (by decide)) (fun _ hk => hk.2) (.string (rdOf ByteArray.empty t126 0))) (fun _ hk => hk.2) (.string (rdOf ByteArray.empty t126 1))) (fun _ hk => hk.2) (.string (rdOf ByteArray.empty t126 2))) (fun _ hk => hk.2) (.slice Ao44 t139.length co44)) (fun _ hk => trivial), by repeat (first | (with_reducible first | exact HB.out | apply pA | apply pN | apply pD | refine eU ?_ (by assumption)) | exact HB.out)⟩
         ·replace c34 := Bool.eq_false_iff.mpr c34
          subst c34
          have H1 : (some (rdOf ByteArray.empty t126 0, rdOf ByteArray.empty t126 1, rdOf ByteArray.empty t126 2, ([] : List ByteArray), 0)) = some (r1, r2, r3, r4, r5) := by rw [if_neg (show ¬ (false = true) by decide)] at H; exact H
          clear H
          have H := H1
          clear H1
          simp only [Option.some.injEq, Prod.mk.injEq] at H
          obtain ⟨rfl, rfl, rfl, rfl, rfl⟩ := H
          try go_wp2
          replace HO_7 := am (Kd.R_drew HO_7.out)
          replace BK121 := am (blk_drew BK121.out)
          replace HB := am (below_drew1 HB.out)
          obtain ⟨Ao60, co60, eo60⟩ := Kd.R_slice HO_7.out
          (first | subst eo60 | (injection eo60 with f1_ f2_ f3_; have f4_ := f1_.symm; have f5_ := f3_.symm; clear f1_ f2_ f3_; subst f4_; subst f5_))
          have p135 : 0 ≤ (0 : Int) := (by omega)
          have q135 : 0 < (t126.length : Int) := of_decide_eq_true (by first | (with_reducible assumption) | assumption)
          obtain ⟨ad135, e135, hx135_0⟩ := Kd.at_string (Kd.R_reads' HO_7.out).2.2 0 p135 q135
          cases e135
          have qi135 : (0 < t126.length) = True := eq_true (by omega)
          (try rw [show ((0 : Int)).toNat = 0 from rfl] at hx135_0)
          (try rw [Addr.add_zero'] at hx135_0)
          replace p135 := eq_true p135
          replace q135 := eq_true q135
          have p136 : 0 ≤ (1 : Int) := (by omega)
          have q136 : 1 < (t126.length : Int) := of_decide_eq_true (by first | (with_reducible assumption) | assumption)
          obtain ⟨ad136, e136, hx136_0⟩ := Kd.at_string (Kd.R_reads' HO_7.out).2.2 1 p136 q136
          obtain rfl : ad135 = ad136 := (by injection e136)
          (try simp only [show (1 : Int).toNat = 1 from rfl, Nat.reduceMul, Nat.reduceEqDiff, Go.Addr.add, ↓reduceIte] at hx136_0)
          have qi136 : (1 < t126.length) = True := eq_true (by omega)
          (try rw [show ((1 : Int)).toNat = 1 from rfl] at hx136_0)
          replace p136 := eq_true p136
          replace q136 := eq_true q136
          have p137 : 0 ≤ (2 : Int) := (by omega)
          have q137 : 2 < (t126.length : Int) := of_decide_eq_true (by first | (with_reducible assumption) | assumption)
          obtain ⟨ad137, e137, hx137_0⟩ := Kd.at_string (Kd.R_reads' HO_7.out).2.2 2 p137 q137
          obtain rfl : ad135 = ad137 := (by injection e137)
          (try simp only [show (2 : Int).toNat = 2 from rfl, Nat.reduceMul, Nat.reduceEqDiff, Go.Addr.add, ↓reduceIte] at hx137_0)
          have qi137 : (2 < t126.length) = True := eq_true (by omega)
          (try rw [show ((2 : Int)).toNat = 2 from rfl] at hx137_0)
          replace p137 := eq_true p137
          replace q137 := eq_true q137
          refine start_ (n := 12) (S := fun w' => w'.cell? ad135 = some (.string (rdOf ByteArray.empty t126 0)) ∧ w'.cell? ⟨ad135.block, ad135.off + 1, none⟩ = some (.string (rdOf ByteArray.empty t126 1)) ∧ w'.cell? ⟨ad135.block, ad135.off + 2, none⟩ = some (.string (rdOf ByteArray.empty t126 2))) (ds := []) (bA 12 0) (by kernel_rfl) rfl (by kernel_rfl) ⟨hx135_0, hx136_0, hx137_0⟩ (fun hHeld => ?_); refine with_tabW version_Split.tab7 version_Split.bits7 (fun HT_ HW_ => ?_)
          generalize wc.drew = w59 at HO_7 BK121 HB hx135_0 hx136_0 hx137_0 hHeld ⊢
          refine pT 0 49 (bA 12 1) HT_.out ?_
          refine pT 1 50 (bA 12 3) HT_.out ?_
          refine pT 3 52 (bA 12 11) HT_.out ?_
          refine pT 4 53 (bA 12 27) HT_.out ?_
          refine pT 6 55 (bA 12 91) HT_.out ?_
          refine pT 7 56 (bA 12 219) HT_.out ?_
          refine tT 2 51 (bA 12 223) HT_.out HW_.out hHeld ?_ (hy := by rintro w' ⟨s0, s1, s2⟩; go_simp; with_reducible rfl)
          refine tT 5 54 (bA 12 255) HT_.out HW_.out hHeld ?_ (hy := by rintro w' ⟨s0, s1, s2⟩; go_simp; with_reducible rfl)
          refine tT 8 57 (bA 12 511) HT_.out HW_.out hHeld ?_ (hy := by rintro w' ⟨s0, s1, s2⟩; go_simp; with_reducible rfl)
          refine pT 9 58 (bA 12 1023) HT_.out ?_
          refine oT 10 (bA 12 2047) HT_.out fun K hK => ?_
          refine box_step ?hg (N := 8) ?hd (cs := #[.string (⟨#[]⟩ : ByteArray), .string (⟨#[]⟩ : ByteArray), .string (⟨#[]⟩ : ByteArray), .slice none 0 0]) (t := 36) ?hr ?_; (case hd => rfl); (case hg => rfl); (case hr => first | (go_simp; done) | (go_simp; rfl))
          intro gb138 hg w61 hbox hb
          have HS0_ := (hb.cell (World.block_lt_of_cell? _ _ (hHeld.1))).trans (hHeld.1)
          have HS1_ := (hb.cell (World.block_lt_of_cell? _ _ (hHeld.2.1))).trans (hHeld.2.1)
          have HS2_ := (hb.cell (World.block_lt_of_cell? _ _ (hHeld.2.2))).trans (hHeld.2.2)
          replace HO_7 := am (rB HO_7.out hb)
          have BK138 := am (hbox)
          have GW138 := am ((gT hg HB.out))
          have GE138 := am ((gT hg HB.out))
          have NB121_138 := am ((nT BK121.out hg))
          have NB138_121 := am ((mT BK121.out hg))
          replace BK121 := am (bB BK121.out hb)
          replace HB := am (sT HB.out hb)
          clear hb hbox hg
          refine hK.out _ _ ⟨HS0_, HS1_, HS2_⟩ (fun hHeld => ?_)
          clear hK K
          refine mN 8 ?_
          refine oT 11 (bA 12 4095) HT_.out fun K hK => ?_
          have hs62 : w61.cell? ⟨gb138, 0, none⟩ = some (.string (⟨#[]⟩ : ByteArray)) := cT BK138 0
          have hfs62 := blk_frozen BK138.out 0
          have hns62_0 := NB121_138.out
          have hms62_0 := NB138_121.out
          have hs63 : w61.cell? ⟨gb138, 1, none⟩ = some (.string (⟨#[]⟩ : ByteArray)) := cT BK138 1
          have hfs63 := blk_frozen BK138.out 1
          have hns63_0 := NB121_138.out
          have hms63_0 := NB138_121.out
          have hs64 : w61.cell? ⟨gb138, 2, none⟩ = some (.string (⟨#[]⟩ : ByteArray)) := cT BK138 2
          have hfs64 := blk_frozen BK138.out 2
          have hns64_0 := NB121_138.out
          have hms64_0 := NB138_121.out
          have hs65 : w61.cell? ⟨gb138, 3, none⟩ = some (.slice none 0 0) := cT BK138 3
          have hfs65 := blk_frozen BK138.out 3
          have hns65_0 := NB121_138.out
          have hms65_0 := NB138_121.out
          refine skip_ (w1 := ?_) (by rfl) rfl ?_ ?_
          rotate_left
          ·go_simp
           rfl
          refine hK.out _ _ ⟨((cell_far (p := ⟨gb138, _, none⟩) (by first | exact Kd.own_blk (Kd.R_ne HO_7.out BK138.out (by decide)) | (rw [add_block]; exact Kd.own_blk (Kd.R_ne HO_7.out BK138.out (by decide))) | (show (Addr.add _ _).block ≠ _; rw [add_block]; exact Kd.own_blk (Kd.R_ne HO_7.out BK138.out (by decide))) | (dsimp only; exact Kd.own_blk (Kd.R_ne HO_7.out BK138.out (by decide)))) _).trans (((cell_far (p := ⟨gb138, _, none⟩) (by first | exact Kd.own_blk (Kd.R_ne HO_7.out BK138.out (by decide)) | (rw [add_block]; exact Kd.own_blk (Kd.R_ne HO_7.out BK138.out (by decide))) | (show (Addr.add _ _).block ≠ _; rw [add_block]; exact Kd.own_blk (Kd.R_ne HO_7.out BK138.out (by decide))) | (dsimp only; exact Kd.own_blk (Kd.R_ne HO_7.out BK138.out (by decide)))) _).trans (((cell_far (p := ⟨gb138, _, none⟩) (by first | exact Kd.own_blk (Kd.R_ne HO_7.out BK138.out (by decide)) | (rw [add_block]; exact Kd.own_blk (Kd.R_ne HO_7.out BK138.out (by decide))) | (show (Addr.add _ _).block ≠ _; rw [add_block]; exact Kd.own_blk (Kd.R_ne HO_7.out BK138.out (by decide))) | (dsimp only; exact Kd.own_blk (Kd.R_ne HO_7.out BK138.out (by decide)))) _).trans (((cell_far (p := ⟨gb138, _, none⟩) (by first | exact Kd.own_blk (Kd.R_ne HO_7.out BK138.out (by decide)) | (rw [add_block]; exact Kd.own_blk (Kd.R_ne HO_7.out BK138.out (by decide))) | (show (Addr.add _ _).block ≠ _; rw [add_block]; exact Kd.own_blk (Kd.R_ne HO_7.out BK138.out (by decide))) | (dsimp only; exact Kd.own_blk (Kd.R_ne HO_7.out BK138.out (by decide)))) _).trans (hHeld.1)))))))), ((cell_far (p := ⟨gb138, _, none⟩) (by first | exact Kd.own_blk (Kd.R_ne HO_7.out BK138.out (by decide)) | (rw [add_block]; exact Kd.own_blk (Kd.R_ne HO_7.out BK138.out (by decide))) | (show (Addr.add _ _).block ≠ _; rw [add_block]; exact Kd.own_blk (Kd.R_ne HO_7.out BK138.out (by decide))) | (dsimp only; exact Kd.own_blk (Kd.R_ne HO_7.out BK138.out (by decide)))) _).trans (((cell_far (p := ⟨gb138, _, none⟩) (by first | exact Kd.own_blk (Kd.R_ne HO_7.out BK138.out (by decide)) | (rw [add_block]; exact Kd.own_blk (Kd.R_ne HO_7.out BK138.out (by decide))) | (show (Addr.add _ _).block ≠ _; rw [add_block]; exact Kd.own_blk (Kd.R_ne HO_7.out BK138.out (by decide))) | (dsimp only; exact Kd.own_blk (Kd.R_ne HO_7.out BK138.out (by decide)))) _).trans (((cell_far (p := ⟨gb138, _, none⟩) (by first | exact Kd.own_blk (Kd.R_ne HO_7.out BK138.out (by decide)) | (rw [add_block]; exact Kd.own_blk (Kd.R_ne HO_7.out BK138.out (by decide))) | (show (Addr.add _ _).block ≠ _; rw [add_block]; exact Kd.own_blk (Kd.R_ne HO_7.out BK138.out (by decide))) | (dsimp only; exact Kd.own_blk (Kd.R_ne HO_7.out BK138.out (by decide)))) _).trans (((cell_far (p := ⟨gb138, _, none⟩) (by first | exact Kd.own_blk (Kd.R_ne HO_7.out BK138.out (by decide)) | (rw [add_block]; exact Kd.own_blk (Kd.R_ne HO_7.out BK138.out (by decide))) | (show (Addr.add _ _).block ≠ _; rw [add_block]; exact Kd.own_blk (Kd.R_ne HO_7.out BK138.out (by decide))) | (dsimp only; exact Kd.own_blk (Kd.R_ne HO_7.out BK138.out (by decide)))) _).trans (hHeld.2.1)))))))), ((cell_far (p := ⟨gb138, _, none⟩) (by first | exact Kd.own_blk (Kd.R_ne HO_7.out BK138.out (by decide)) | (rw [add_block]; exact Kd.own_blk (Kd.R_ne HO_7.out BK138.out (by decide))) | (show (Addr.add _ _).block ≠ _; rw [add_block]; exact Kd.own_blk (Kd.R_ne HO_7.out BK138.out (by decide))) | (dsimp only; exact Kd.own_blk (Kd.R_ne HO_7.out BK138.out (by decide)))) _).trans (((cell_far (p := ⟨gb138, _, none⟩) (by first | exact Kd.own_blk (Kd.R_ne HO_7.out BK138.out (by decide)) | (rw [add_block]; exact Kd.own_blk (Kd.R_ne HO_7.out BK138.out (by decide))) | (show (Addr.add _ _).block ≠ _; rw [add_block]; exact Kd.own_blk (Kd.R_ne HO_7.out BK138.out (by decide))) | (dsimp only; exact Kd.own_blk (Kd.R_ne HO_7.out BK138.out (by decide)))) _).trans (((cell_far (p := ⟨gb138, _, none⟩) (by first | exact Kd.own_blk (Kd.R_ne HO_7.out BK138.out (by decide)) | (rw [add_block]; exact Kd.own_blk (Kd.R_ne HO_7.out BK138.out (by decide))) | (show (Addr.add _ _).block ≠ _; rw [add_block]; exact Kd.own_blk (Kd.R_ne HO_7.out BK138.out (by decide))) | (dsimp only; exact Kd.own_blk (Kd.R_ne HO_7.out BK138.out (by decide)))) _).trans (((cell_far (p := ⟨gb138, _, none⟩) (by first | exact Kd.own_blk (Kd.R_ne HO_7.out BK138.out (by decide)) | (rw [add_block]; exact Kd.own_blk (Kd.R_ne HO_7.out BK138.out (by decide))) | (show (Addr.add _ _).block ≠ _; rw [add_block]; exact Kd.own_blk (Kd.R_ne HO_7.out BK138.out (by decide))) | (dsimp only; exact Kd.own_blk (Kd.R_ne HO_7.out BK138.out (by decide)))) _).trans (hHeld.2.2))))))))⟩ (fun hHeld => ?_)
          clear hK K
          refine done_ (done_of HT_.out (by kernel_rfl)) ?_
          have hnb66 := NB138_121.out
          have hnc66 := NB121_138.out
          have hcz67_0 : w61.cell? ⟨gb138, 0, none⟩ = some (.string (⟨#[]⟩ : ByteArray)) := cT BK138 0
          have hcz67_1 : w61.cell? ⟨gb138, 1, none⟩ = some (.string (⟨#[]⟩ : ByteArray)) := cT BK138 1
          have hcz67_2 : w61.cell? ⟨gb138, 2, none⟩ = some (.string (⟨#[]⟩ : ByteArray)) := cT BK138 2
          have hcz67_3 : w61.cell? ⟨gb138, 3, none⟩ = some (.slice none 0 0) := cT BK138 3
          have hfz67_0 := blk_frozen BK138.out 0
          have hfz67_1 := blk_frozen BK138.out 1
          have hfz67_2 := blk_frozen BK138.out 2
          have hfz67_3 := blk_frozen BK138.out 3
          have hcz68_0 : w61.cell? ⟨gb121, 0, none⟩ = some (.string (⟨#[]⟩ : ByteArray)) := cT BK121 0
          have hcz68_1 : w61.cell? ⟨gb121, 1, none⟩ = some (.string (⟨#[]⟩ : ByteArray)) := cT BK121 1
          have hcz68_2 : w61.cell? ⟨gb121, 2, none⟩ = some (.string (⟨#[]⟩ : ByteArray)) := cT BK121 2
          have hcz68_3 : w61.cell? ⟨gb121, 3, none⟩ = some (.slice none 0 0) := cT BK121 3
          have hfz68_0 := blk_frozen BK121.out 0
          have hfz68_1 := blk_frozen BK121.out 1
          have hfz68_2 := blk_frozen BK121.out 2
          have hfz68_3 := blk_frozen BK121.out 3
          try go_wp2
          refine bodyPost_ret (results_ct rfl _ _ gb121 36 #[.string (rdOf ByteArray.empty t126 0), .string (rdOf ByteArray.empty t126 1), .string (rdOf ByteArray.empty t126 2), .slice none 0 0] (0, 0) _ rfl (by (with_reducible repeat (first | apply bn | apply bd | apply ba)); refine blk_put (cs := #[.string (rdOf ByteArray.empty t126 0), .string (rdOf ByteArray.empty t126 1), .string (rdOf ByteArray.empty t126 2), .slice none 0 0]) ?_ 3 _ rfl; (with_reducible repeat (first | apply bn | apply bd | apply ba)); refine blk_put (cs := #[.string (rdOf ByteArray.empty t126 0), .string (rdOf ByteArray.empty t126 1), .string (⟨#[]⟩ : ByteArray), .slice none 0 0]) ?_ 2 _ rfl; (with_reducible repeat (first | apply bn | apply bd | apply ba)); refine blk_put (cs := #[.string (rdOf ByteArray.empty t126 0), .string (⟨#[]⟩ : ByteArray), .string (⟨#[]⟩ : ByteArray), .slice none 0 0]) ?_ 1 _ rfl; (with_reducible repeat (first | apply bn | apply bd | apply ba)); refine blk_put (cs := #[.string (⟨#[]⟩ : ByteArray), .string (⟨#[]⟩ : ByteArray), .string (⟨#[]⟩ : ByteArray), .slice none 0 0]) ?_ 0 _ rfl; (with_reducible repeat (first | apply bn | apply bd | apply ba)); refine blk_far ?_ NB121_138.out _; (with_reducible repeat (first | apply bn | apply bd | apply ba)); refine blk_far ?_ NB121_138.out _; (with_reducible repeat (first | apply bn | apply bd | apply ba)); refine blk_far ?_ NB121_138.out _; (with_reducible repeat (first | apply bn | apply bd | apply ba)); refine blk_far ?_ NB121_138.out _; exact bT BK121.out) Tryd.underlying36 rfl (by kernel_rfl)) rfl ?_
          exact ⟨_, by first | rfl | (simp [errW_none, errW_some] <;> rfl) | (simp [*, errW_none, errW_some] <;> rfl), by first | exact Kd.R_nil _ _ _ _ _ | exact Kd.N_nil _ _ _ _ _ | exact Kd.V_nil _ _ _ _ _ | exact Kd.Q_nil _ _ _ _ _ | exact Kd.S_nil _ _ _ _ _, by repeat (first | (with_reducible first | exact HB.out | apply pA | apply pN | apply pD | refine eU ?_ (by assumption)) | exact HB.out)⟩
        ·rw [if_neg c33] at H
         exact absurd H (by simp)
       ·rw [if_neg c32] at H
        exact absurd H (by simp)
      ·rw [if_neg c31] at H
       exact absurd H (by simp)
  ·rw [if_neg c4] at H
   exact absurd H (by simp)
 ·replace c3 := Bool.eq_false_iff.mpr c3
  subst c3
  have H1 : (some ((⟨#[]⟩ : ByteArray), (⟨#[]⟩ : ByteArray), (⟨#[]⟩ : ByteArray), ([] : List ByteArray), 1)) = some (r1, r2, r3, r4, r5) := by rw [if_neg (show ¬ (false = true) by decide)] at H; exact H
  clear H
  have H := H1
  clear H1
  simp only [Option.some.injEq, Prod.mk.injEq] at H
  obtain ⟨rfl, rfl, rfl, rfl, rfl⟩ := H
  go_enter Tryd.func18, Tryd.ntmps18
  go_wp2_with (first | ((with_reducible refine gate_dst (N := 2) rfl ?_); refine box_event ?hg (N := 2) ?hd (cs := #[.string (⟨#[]⟩ : ByteArray), .string (⟨#[]⟩ : ByteArray), .string (⟨#[]⟩ : ByteArray), .slice none 0 0]) (t := 36) ?hr ?_; (case hd => rfl); (case hg => rfl); (case hr => first | (go_simp; done) | (go_simp; rfl)); intro gb121 hg w69 hbox hb; have BK121 := am (hbox); have GW121 := am ((gT hg HB.out)); have GE121 := am ((gT hg HB.out)); replace HB := am (sT HB.out hb); clear hb hbox hg) | ((with_reducible refine gate_callee (f := 29) rfl ?_); refine gL (some 12) Tryd.func29 #[.string a0, .string (⟨#[118]⟩ : ByteArray)] ?_; (with_reducible refine (strings_HasPrefix.calls a0 (⟨#[118]⟩ : ByteArray) false _ A2.out).mono ?_); rintro e w' ⟨rfl, ⟨nd, rfl⟩⟩; refine ⟨_, rfl, ?_⟩; (try (rw [drewN_self w69]; generalize hq_ : World.drewN w69 _ = w69; have n0_ : Aside0 (w69.heap[gb121]? = some (.cells #[.string (⟨#[]⟩ : ByteArray), .string (⟨#[]⟩ : ByteArray), .string (⟨#[]⟩ : ByteArray), .slice none 0 0] 36 (0, 0))) := ⟨by rw [← hq_]; exact (bT BK121.out)⟩; have n1_ : Aside0 (Below w.heap.size w w69) := ⟨by rw [← hq_]; exact (eT HB.out)⟩; clear BK121 HB hq_; have BK121 := n0_; have HB := n1_; clear n0_ n1_)); have hcz70_0 : w69.cell? ⟨gb121, 0, none⟩ = some (.string (⟨#[]⟩ : ByteArray)) := cT BK121 0; have hcz70_1 : w69.cell? ⟨gb121, 1, none⟩ = some (.string (⟨#[]⟩ : ByteArray)) := cT BK121 1; have hcz70_2 : w69.cell? ⟨gb121, 2, none⟩ = some (.string (⟨#[]⟩ : ByteArray)) := cT BK121 2; have hcz70_3 : w69.cell? ⟨gb121, 3, none⟩ = some (.slice none 0 0) := cT BK121 3; have hfz70_0 := blk_frozen BK121.out 0; have hfz70_1 := blk_frozen BK121.out 1; have hfz70_2 := blk_frozen BK121.out 2; have hfz70_3 := blk_frozen BK121.out 3))
  refine bodyPost_ret (results_ct rfl _ _ gb121 36 #[.string (⟨#[]⟩ : ByteArray), .string (⟨#[]⟩ : ByteArray), .string (⟨#[]⟩ : ByteArray), .slice none 0 0] (0, 0) _ rfl (by (with_reducible repeat (first | apply bn | apply bd | apply ba)); refine blk_put (cs := #[.string (⟨#[]⟩ : ByteArray), .string (⟨#[]⟩ : ByteArray), .string (⟨#[]⟩ : ByteArray), .slice none 0 0]) ?_ 3 _ rfl; (with_reducible repeat (first | apply bn | apply bd | apply ba)); refine blk_put (cs := #[.string (⟨#[]⟩ : ByteArray), .string (⟨#[]⟩ : ByteArray), .string (⟨#[]⟩ : ByteArray), .slice none 0 0]) ?_ 2 _ rfl; (with_reducible repeat (first | apply bn | apply bd | apply ba)); refine blk_put (cs := #[.string (⟨#[]⟩ : ByteArray), .string (⟨#[]⟩ : ByteArray), .string (⟨#[]⟩ : ByteArray), .slice none 0 0]) ?_ 1 _ rfl; (with_reducible repeat (first | apply bn | apply bd | apply ba)); refine blk_put (cs := #[.string (⟨#[]⟩ : ByteArray), .string (⟨#[]⟩ : ByteArray), .string (⟨#[]⟩ : ByteArray), .slice none 0 0]) ?_ 0 _ rfl; exact bT BK121.out) Tryd.underlying36 rfl (by kernel_rfl)) rfl ?_
  exact ⟨_, by first | rfl | (simp [errW_none, errW_some] <;> rfl) | (simp [*, errW_none, errW_some] <;> rfl), by first | exact Kd.R_nil _ _ _ _ _ | exact Kd.N_nil _ _ _ _ _ | exact Kd.V_nil _ _ _ _ _ | exact Kd.Q_nil _ _ _ _ _ | exact Kd.S_nil _ _ _ _ _, by repeat (first | (with_reducible first | exact HB.out | apply pA | apply pN | apply pD | refine eU ?_ (by assumption)) | exact HB.out)⟩

/-! ### cmp_Or_int: function 23 -/
def cmp_Or_int.l0 : Nat → Int → List Int → Int → Int → Option (Int)
 | 0, _, _, _, _ => none
 | k + 1, x3, x6, x7, x8 => if x8 < x7 then (if 0 ≤ x8 then (if x8 < (x6.length : Int) then (if (rd x6 x8) = x3 then (cmp_Or_int.l0 k x3 x6 x7 (wrap64 (x8 + 1))) else (some (rd x6 x8))) else (none)) else (none)) else (some x3)
def cmp_Or_int.f (k : Nat) (l0 : List Int) : Option (Int) := cmp_Or_int.l0 k 0 l0 (l0.length : Int) 0
theorem cmp_Or_int.mono_l : ∀ k, (∀ y0 y1 y2 y3, LeO (cmp_Or_int.l0 k y0 y1 y2 y3) (cmp_Or_int.l0 (k + 1) y0 y1 y2 y3))
 | 0 => fun _ _ _ _ r h => by simp [cmp_Or_int.l0] at h
 | k + 1 => by
  have ih0 := cmp_Or_int.mono_l k
  ·intro y0 y1 y2 y3
   unfold cmp_Or_int.l0
   repeat' first
   | (with_reducible exact ih0 _ _ _ _)
   | (with_reducible exact LeO.refl _)
   | (with_reducible exact LeO.none _)
   | (with_reducible refine LeO.ite ?_ ?_)
   | (with_reducible refine LeO.bind ?_ (fun _ => ?_))
   | exact ih0 _ _ _ _
   | exact LeO.none _
   | refine LeO.ite ?_ ?_
   | refine LeO.bind ?_ (fun _ => ?_)
theorem cmp_Or_int.mono : ∀ a0 k, LeO (cmp_Or_int.f k a0) (cmp_Or_int.f (k + 1) a0) := by
 intro a0 k
 have ih0 := cmp_Or_int.mono_l k
 unfold cmp_Or_int.f
 repeat' first
   | (with_reducible exact ih0 _ _ _ _)
   | (with_reducible exact LeO.refl _)
   | (with_reducible exact LeO.none _)
   | (with_reducible refine LeO.ite ?_ ?_)
   | (with_reducible refine LeO.bind ?_ (fun _ => ?_))
   | exact ih0 _ _ _ _
   | exact LeO.none _
   | refine LeO.ite ?_ ?_
   | refine LeO.bind ?_ (fun _ => ?_)
set_option maxHeartbeats 8000000 in
set_option maxRecDepth 100000 in
theorem cmp_Or_int.calls (k : Nat) (A0 : Option Addr) (c0 : Nat) (l0 : List Int) (r : Int) (w : World) (hr0 : Kd.C (Kd.int .i64) w A0 l0.length l0) (hc0 : l0.length ≤ c0) (h : cmp_Or_int.f k l0 = some r) :
  Calls Tryd.prog 23 #[.slice A0 l0.length c0] w fun e w' => e = .returned (.int .i64 r) ∧ Drawn0 w w' := by
 have HR0 := Aside0.mk hr0
 have HC0 := Aside0.mk hc0
 clear hr0 hc0
 have H : (cmp_Or_int.l0 k 0 l0 (l0.length : Int) 0) = some r := h
 clear h
 have H' := Aside0.mk H
 clear H
 go_enter Tryd.func23, Tryd.ntmps23
 go_wp2
 go_loopg [8] k (fun kq v8 w' => ∃ (x8_1 : Int), v8 = .int .i64 x8_1 ∧ Aside0 (cmp_Or_int.l0 kq 0 l0 (l0.length : Int) x8_1 = some r) ∧ Aside0 (kq ≤ k) ∧ Drawn0 w w')
 case atStart => exact ⟨(0), (by first | rfl | (simp; done) | (simp [*]; done)), H', ⟨Nat.le_refl _⟩, by repeat (first | exact Drawn0.refl _ | apply Drawn0.step)⟩
 case round =>
  clear H'
  obtain ⟨x8_1, rfl, HA, HK1, ⟨m1, rfl⟩⟩ := hrel
  cases gk with
  | zero => exact absurd HA.out (by simp [cmp_Or_int.l0])
  | succ k1 =>
   have H := HA.out
   clear HA
   simp only [cmp_Or_int.l0] at H
   by_cases c2 : x8_1 < (l0.length : Int)
   ·rw [if_pos c2] at H
    have c2b0 : decide (x8_1 < (l0.length : Int)) = true := decide_eq_true c2
    clear c2
    by_cases c3 : 0 ≤ x8_1
    ·rw [if_pos c3] at H
     have c3b0 : decide (0 ≤ x8_1) = true := decide_eq_true c3
     clear c3
     by_cases c4 : x8_1 < (l0.length : Int)
     ·rw [if_pos c4] at H
      have c4b0 : decide (x8_1 < (l0.length : Int)) = true := decide_eq_true c4
      clear c4
      by_cases c5 : (rd l0 x8_1) = 0
      ·rw [if_pos c5] at H
       have c5b0 : ((rd l0 x8_1) == 0) = true := beq_iff_eq.mpr c5
       have c5b1 : ((rd l0 x8_1) != 0) = false := bne_eq_false_iff_eq.mpr c5
       clear c5
       have H' := Aside0.mk H
       clear H
       have p144 : 0 ≤ (x8_1 : Int) := of_decide_eq_true (by first | (with_reducible assumption) | assumption)
       have q144 : x8_1 < (l0.length : Int) := of_decide_eq_true (by first | (with_reducible assumption) | assumption)
       obtain ⟨ad144, e144, hx144_0⟩ := Kd.at_int HR0.out x8_1 p144 q144
       cases e144
       replace p144 := eq_true p144
       replace q144 := eq_true q144
       go_wp2
       go_roundg k1
       case measure => have := HK1.out; omega
       case rel => exact ⟨(wrap64 (x8_1 + 1)), (by first | rfl | (simp; done) | (simp [*]; done)), H', ⟨by have := HK1.out; omega⟩, by repeat (first | exact Drawn0.refl _ | apply Drawn0.step)⟩
      ·rw [if_neg c5] at H
       have c5b0 : ((rd l0 x8_1) == 0) = false := beq_eq_false_iff_ne.mpr c5
       have c5b1 : ((rd l0 x8_1) != 0) = true := bne_iff_ne.mpr c5
       obtain rfl := Option.some.inj H
       have p144 : 0 ≤ (x8_1 : Int) := of_decide_eq_true (by first | (with_reducible assumption) | assumption)
       have q144 : x8_1 < (l0.length : Int) := of_decide_eq_true (by first | (with_reducible assumption) | assumption)
       obtain ⟨ad144, e144, hx144_0⟩ := Kd.at_int HR0.out x8_1 p144 q144
       cases e144
       replace p144 := eq_true p144
       replace q144 := eq_true q144
       go_wp2
       go_ret
       exact ⟨by first | rfl | (simp; done) | (simp [*]; done), by repeat (first | exact Drawn0.refl _ | apply Drawn0.step)⟩
     ·rw [if_neg c4] at H
      exact absurd H (by simp)
    ·rw [if_neg c3] at H
     exact absurd H (by simp)
   ·rw [if_neg c2] at H
    have c2b0 : decide (x8_1 < (l0.length : Int)) = false := decide_eq_false c2
    clear c2
    obtain rfl := Option.some.inj H
    go_wp2
    go_ret
    exact ⟨by first | rfl | (simp; done) | (simp [*]; done), by repeat (first | exact Drawn0.refl _ | apply Drawn0.step)⟩

/-! ### cmp_isNaN_int: function 39 -/
def cmp_isNaN_int.f (a0 : Int) : Option (Bool) := some (a0 != a0)
set_option maxHeartbeats 8000000 in
set_option maxRecDepth 100000 in
theorem cmp_isNaN_int.calls (a0 : Int) (r : Bool) (w : World) (h : cmp_isNaN_int.f a0 = some r) :
  Calls Tryd.prog 39 #[.int .i64 a0] w fun e w' => e = .returned (.bool r) ∧ Drawn0 w w' := by
 have H : (some (a0 != a0)) = some r := h
 clear h
 obtain rfl := Option.some.inj H
 go_enter Tryd.func39, Tryd.ntmps39
 go_wp2
 go_ret
 exact ⟨by first | rfl | (simp; done) | (simp [*]; done), by repeat (first | exact Drawn0.refl _ | apply Drawn0.step)⟩

/-! ### cmp_Compare_int: function 25 -/
def cmp_Compare_int.f (a0 : Int) (a1 : Int) : Option (Int) := (cmp_isNaN_int.f a0).bind fun t145 => ((cmp_isNaN_int.f a1).bind fun t146 => (if t145 = true then (if t146 = true then (some 0) else (some (-1))) else (if t146 = true then (some 1) else (if a0 < a1 then (some (-1)) else (if a0 > a1 then (some 1) else (some 0))))))
set_option maxHeartbeats 8000000 in
set_option maxRecDepth 100000 in
theorem cmp_Compare_int.calls (a0 : Int) (a1 : Int) (r : Int) (w : World) (h : cmp_Compare_int.f a0 a1 = some r) :
  Calls Tryd.prog 25 #[.int .i64 a0, .int .i64 a1] w fun e w' => e = .returned (.int .i64 r) ∧ Drawn0 w w' := by
 have H : ((cmp_isNaN_int.f a0).bind fun t145 => ((cmp_isNaN_int.f a1).bind fun t146 => (if t145 = true then (if t146 = true then (some 0) else (some (-1))) else (if t146 = true then (some 1) else (if a0 < a1 then (some (-1)) else (if a0 > a1 then (some 1) else (some 0))))))) = some r := h
 clear h
 replace H := Option.bind_eq_some_iff.mp H
 obtain ⟨t145, A30, H⟩ := H
 replace H : ((cmp_isNaN_int.f a1).bind fun t146 => (if t145 = true then (if t146 = true then (some 0) else (some (-1))) else (if t146 = true then (some 1) else (if a0 < a1 then (some (-1)) else (if a0 > a1 then (some 1) else (some 0)))))) = some r := H
 have A3 := Aside0.mk A30
 clear A30
 replace H := Option.bind_eq_some_iff.mp H
 obtain ⟨t146, A40, H⟩ := H
 replace H : (if t145 = true then (if t146 = true then (some 0) else (some (-1))) else (if t146 = true then (some 1) else (if a0 < a1 then (some (-1)) else (if a0 > a1 then (some 1) else (some 0))))) = some r := H
 have A4 := Aside0.mk A40
 clear A40
 by_cases c5 : t145 = true
 ·subst c5
  have H1 : (if t146 = true then (some 0) else (some (-1))) = some r := by rw [if_pos rfl] at H; exact H
  clear H
  have H := H1
  clear H1
  by_cases c6 : t146 = true
  ·subst c6
   have H1 : (some 0) = some r := by rw [if_pos rfl] at H; exact H
   clear H
   have H := H1
   clear H1
   obtain rfl := Option.some.inj H
   go_enter Tryd.func25, Tryd.ntmps25
   go_wp2_with (first | ((with_reducible refine gate_callee (f := 39) rfl ?_); refine gL (some 8) Tryd.func39 #[.int .i64 a0] ?_; (with_reducible refine (cmp_isNaN_int.calls a0 true _ A3.out).mono ?_); rintro e w' ⟨rfl, ⟨nd, rfl⟩⟩; refine ⟨_, rfl, ?_⟩) | ((with_reducible refine gate_callee (f := 39) rfl ?_); refine gL (some 10) Tryd.func39 #[.int .i64 a1] ?_; (with_reducible refine (cmp_isNaN_int.calls a1 true _ A4.out).mono ?_); rintro e w' ⟨rfl, ⟨nd, rfl⟩⟩; refine ⟨_, rfl, ?_⟩))
   go_ret
   exact ⟨by first | rfl | (simp; done) | (simp [*]; done), by repeat (first | exact Drawn0.refl _ | apply Drawn0.step)⟩
  ·replace c6 := Bool.eq_false_iff.mpr c6
   subst c6
   have H1 : (some (-1)) = some r := by rw [if_neg (show ¬ (false = true) by decide)] at H; exact H
   clear H
   have H := H1
   clear H1
   obtain rfl := Option.some.inj H
   go_enter Tryd.func25, Tryd.ntmps25
   go_wp2_with (first | ((with_reducible refine gate_callee (f := 39) rfl ?_); refine gL (some 8) Tryd.func39 #[.int .i64 a0] ?_; (with_reducible refine (cmp_isNaN_int.calls a0 true _ A3.out).mono ?_); rintro e w' ⟨rfl, ⟨nd, rfl⟩⟩; refine ⟨_, rfl, ?_⟩) | ((with_reducible refine gate_callee (f := 39) rfl ?_); refine gL (some 10) Tryd.func39 #[.int .i64 a1] ?_; (with_reducible refine (cmp_isNaN_int.calls a1 false _ A4.out).mono ?_); rintro e w' ⟨rfl, ⟨nd, rfl⟩⟩; refine ⟨_, rfl, ?_⟩))
   go_ret
   exact ⟨by first | rfl | (simp; done) | (simp [*]; done), by repeat (first | exact Drawn0.refl _ | apply Drawn0.step)⟩
 ·replace c5 := Bool.eq_false_iff.mpr c5
  subst c5
  have H1 : (if t146 = true then (some 1) else (if a0 < a1 then (some (-1)) else (if a0 > a1 then (some 1) else (some 0)))) = some r := by rw [if_neg (show ¬ (false = true) by decide)] at H; exact H
  clear H
  have H := H1
  clear H1
  by_cases c7 : t146 = true
  ·subst c7
   have H1 : (some 1) = some r := by rw [if_pos rfl] at H; exact H
   clear H
   have H := H1
   clear H1
   obtain rfl := Option.some.inj H
   go_enter Tryd.func25, Tryd.ntmps25
   go_wp2_with (first | ((with_reducible refine gate_callee (f := 39) rfl ?_); refine gL (some 8) Tryd.func39 #[.int .i64 a0] ?_; (with_reducible refine (cmp_isNaN_int.calls a0 false _ A3.out).mono ?_); rintro e w' ⟨rfl, ⟨nd, rfl⟩⟩; refine ⟨_, rfl, ?_⟩) | ((with_reducible refine gate_callee (f := 39) rfl ?_); refine gL (some 10) Tryd.func39 #[.int .i64 a1] ?_; (with_reducible refine (cmp_isNaN_int.calls a1 true _ A4.out).mono ?_); rintro e w' ⟨rfl, ⟨nd, rfl⟩⟩; refine ⟨_, rfl, ?_⟩))
   go_ret
   exact ⟨by first | rfl | (simp; done) | (simp [*]; done), by repeat (first | exact Drawn0.refl _ | apply Drawn0.step)⟩
  ·replace c7 := Bool.eq_false_iff.mpr c7
   subst c7
   have H1 : (if a0 < a1 then (some (-1)) else (if a0 > a1 then (some 1) else (some 0))) = some r := by rw [if_neg (show ¬ (false = true) by decide)] at H; exact H
   clear H
   have H := H1
   clear H1
   by_cases c8 : a0 < a1
   ·rw [if_pos c8] at H
    have c8b0 : decide (a0 < a1) = true := decide_eq_true c8
    clear c8
    obtain rfl := Option.some.inj H
    go_enter Tryd.func25, Tryd.ntmps25
    go_wp2_with (first | ((with_reducible refine gate_callee (f := 39) rfl ?_); refine gL (some 8) Tryd.func39 #[.int .i64 a0] ?_; (with_reducible refine (cmp_isNaN_int.calls a0 false _ A3.out).mono ?_); rintro e w' ⟨rfl, ⟨nd, rfl⟩⟩; refine ⟨_, rfl, ?_⟩) | ((with_reducible refine gate_callee (f := 39) rfl ?_); refine gL (some 10) Tryd.func39 #[.int .i64 a1] ?_; (with_reducible refine (cmp_isNaN_int.calls a1 false _ A4.out).mono ?_); rintro e w' ⟨rfl, ⟨nd, rfl⟩⟩; refine ⟨_, rfl, ?_⟩))
    go_ret
    exact ⟨by first | rfl | (simp; done) | (simp [*]; done), by repeat (first | exact Drawn0.refl _ | apply Drawn0.step)⟩
   ·rw [if_neg c8] at H
    have c8b0 : decide (a0 < a1) = false := decide_eq_false c8
    clear c8
    by_cases c9 : a0 > a1
    ·rw [if_pos c9] at H
     have c9b0 : decide (a1 < a0) = true := decide_eq_true c9
     clear c9
     obtain rfl := Option.some.inj H
     go_enter Tryd.func25, Tryd.ntmps25
     go_wp2_with (first | ((with_reducible refine gate_callee (f := 39) rfl ?_); refine gL (some 8) Tryd.func39 #[.int .i64 a0] ?_; (with_reducible refine (cmp_isNaN_int.calls a0 false _ A3.out).mono ?_); rintro e w' ⟨rfl, ⟨nd, rfl⟩⟩; refine ⟨_, rfl, ?_⟩) | ((with_reducible refine gate_callee (f := 39) rfl ?_); refine gL (some 10) Tryd.func39 #[.int .i64 a1] ?_; (with_reducible refine (cmp_isNaN_int.calls a1 false _ A4.out).mono ?_); rintro e w' ⟨rfl, ⟨nd, rfl⟩⟩; refine ⟨_, rfl, ?_⟩))
     go_ret
     exact ⟨by first | rfl | (simp; done) | (simp [*]; done), by repeat (first | exact Drawn0.refl _ | apply Drawn0.step)⟩
    ·rw [if_neg c9] at H
     have c9b0 : decide (a1 < a0) = false := decide_eq_false c9
     clear c9
     obtain rfl := Option.some.inj H
     go_enter Tryd.func25, Tryd.ntmps25
     go_wp2_with (first | ((with_reducible refine gate_callee (f := 39) rfl ?_); refine gL (some 8) Tryd.func39 #[.int .i64 a0] ?_; (with_reducible refine (cmp_isNaN_int.calls a0 false _ A3.out).mono ?_); rintro e w' ⟨rfl, ⟨nd, rfl⟩⟩; refine ⟨_, rfl, ?_⟩) | ((with_reducible refine gate_callee (f := 39) rfl ?_); refine gL (some 10) Tryd.func39 #[.int .i64 a1] ?_; (with_reducible refine (cmp_isNaN_int.calls a1 false _ A4.out).mono ?_); rintro e w' ⟨rfl, ⟨nd, rfl⟩⟩; refine ⟨_, rfl, ?_⟩))
     go_ret
     exact ⟨by first | rfl | (simp; done) | (simp [*]; done), by repeat (first | exact Drawn0.refl _ | apply Drawn0.step)⟩

/-! ### cmp_isNaN_string: function 55 -/
def cmp_isNaN_string.f (a0 : ByteArray) : Option (Bool) := some (a0.toList != a0.toList)
set_option maxHeartbeats 8000000 in
set_option maxRecDepth 100000 in
theorem cmp_isNaN_string.calls (a0 : ByteArray) (r : Bool) (w : World) (h : cmp_isNaN_string.f a0 = some r) :
  Calls Tryd.prog 55 #[.string a0] w fun e w' => e = .returned (.bool r) ∧ Drawn0 w w' := by
 have H : (some (a0.toList != a0.toList)) = some r := h
 clear h
 obtain rfl := Option.some.inj H
 go_enter Tryd.func55, Tryd.ntmps55
 go_wp2
 go_ret
 exact ⟨by first | rfl | (simp; done) | (simp [*]; done), by repeat (first | exact Drawn0.refl _ | apply Drawn0.step)⟩

/-! ### cmp_Compare_string: function 50 -/
def cmp_Compare_string.f (a0 : ByteArray) (a1 : ByteArray) : Option (Int) := (cmp_isNaN_string.f a0).bind fun t147 => ((cmp_isNaN_string.f a1).bind fun t148 => (if t147 = true then (if t148 = true then (some 0) else (some (-1))) else (if t148 = true then (some 1) else (if (Op.bytesLess a0.toList a1.toList) = true then (some (-1)) else (if (Op.bytesLess a1.toList a0.toList) = true then (some 1) else (some 0))))))
set_option maxHeartbeats 8000000 in
set_option maxRecDepth 100000 in
theorem cmp_Compare_string.calls (a0 : ByteArray) (a1 : ByteArray) (r : Int) (w : World) (h : cmp_Compare_string.f a0 a1 = some r) :
  Calls Tryd.prog 50 #[.string a0, .string a1] w fun e w' => e = .returned (.int .i64 r) ∧ Drawn0 w w' := by
 have H : ((cmp_isNaN_string.f a0).bind fun t147 => ((cmp_isNaN_string.f a1).bind fun t148 => (if t147 = true then (if t148 = true then (some 0) else (some (-1))) else (if t148 = true then (some 1) else (if (Op.bytesLess a0.toList a1.toList) = true then (some (-1)) else (if (Op.bytesLess a1.toList a0.toList) = true then (some 1) else (some 0))))))) = some r := h
 clear h
 replace H := Option.bind_eq_some_iff.mp H
 obtain ⟨t147, A30, H⟩ := H
 replace H : ((cmp_isNaN_string.f a1).bind fun t148 => (if t147 = true then (if t148 = true then (some 0) else (some (-1))) else (if t148 = true then (some 1) else (if (Op.bytesLess a0.toList a1.toList) = true then (some (-1)) else (if (Op.bytesLess a1.toList a0.toList) = true then (some 1) else (some 0)))))) = some r := H
 have A3 := Aside0.mk A30
 clear A30
 replace H := Option.bind_eq_some_iff.mp H
 obtain ⟨t148, A40, H⟩ := H
 replace H : (if t147 = true then (if t148 = true then (some 0) else (some (-1))) else (if t148 = true then (some 1) else (if (Op.bytesLess a0.toList a1.toList) = true then (some (-1)) else (if (Op.bytesLess a1.toList a0.toList) = true then (some 1) else (some 0))))) = some r := H
 have A4 := Aside0.mk A40
 clear A40
 by_cases c5 : t147 = true
 ·subst c5
  have H1 : (if t148 = true then (some 0) else (some (-1))) = some r := by rw [if_pos rfl] at H; exact H
  clear H
  have H := H1
  clear H1
  by_cases c6 : t148 = true
  ·subst c6
   have H1 : (some 0) = some r := by rw [if_pos rfl] at H; exact H
   clear H
   have H := H1
   clear H1
   obtain rfl := Option.some.inj H
   go_enter Tryd.func50, Tryd.ntmps50
   go_wp2_with (first | ((with_reducible refine gate_callee (f := 55) rfl ?_); refine gL (some 8) Tryd.func55 #[.string a0] ?_; (with_reducible refine (cmp_isNaN_string.calls a0 true _ A3.out).mono ?_); rintro e w' ⟨rfl, ⟨nd, rfl⟩⟩; refine ⟨_, rfl, ?_⟩) | ((with_reducible refine gate_callee (f := 55) rfl ?_); refine gL (some 10) Tryd.func55 #[.string a1] ?_; (with_reducible refine (cmp_isNaN_string.calls a1 true _ A4.out).mono ?_); rintro e w' ⟨rfl, ⟨nd, rfl⟩⟩; refine ⟨_, rfl, ?_⟩))
   go_ret
   exact ⟨by first | rfl | (simp; done) | (simp [*]; done), by repeat (first | exact Drawn0.refl _ | apply Drawn0.step)⟩
  ·replace c6 := Bool.eq_false_iff.mpr c6
   subst c6
   have H1 : (some (-1)) = some r := by rw [if_neg (show ¬ (false = true) by decide)] at H; exact H
   clear H
   have H := H1
   clear H1
   obtain rfl := Option.some.inj H
   go_enter Tryd.func50, Tryd.ntmps50
   go_wp2_with (first | ((with_reducible refine gate_callee (f := 55) rfl ?_); refine gL (some 8) Tryd.func55 #[.string a0] ?_; (with_reducible refine (cmp_isNaN_string.calls a0 true _ A3.out).mono ?_); rintro e w' ⟨rfl, ⟨nd, rfl⟩⟩; refine ⟨_, rfl, ?_⟩) | ((with_reducible refine gate_callee (f := 55) rfl ?_); refine gL (some 10) Tryd.func55 #[.string a1] ?_; (with_reducible refine (cmp_isNaN_string.calls a1 false _ A4.out).mono ?_); rintro e w' ⟨rfl, ⟨nd, rfl⟩⟩; refine ⟨_, rfl, ?_⟩))
   go_ret
   exact ⟨by first | rfl | (simp; done) | (simp [*]; done), by repeat (first | exact Drawn0.refl _ | apply Drawn0.step)⟩
 ·replace c5 := Bool.eq_false_iff.mpr c5
  subst c5
  have H1 : (if t148 = true then (some 1) else (if (Op.bytesLess a0.toList a1.toList) = true then (some (-1)) else (if (Op.bytesLess a1.toList a0.toList) = true then (some 1) else (some 0)))) = some r := by rw [if_neg (show ¬ (false = true) by decide)] at H; exact H
  clear H
  have H := H1
  clear H1
  by_cases c7 : t148 = true
  ·subst c7
   have H1 : (some 1) = some r := by rw [if_pos rfl] at H; exact H
   clear H
   have H := H1
   clear H1
   obtain rfl := Option.some.inj H
   go_enter Tryd.func50, Tryd.ntmps50
   go_wp2_with (first | ((with_reducible refine gate_callee (f := 55) rfl ?_); refine gL (some 8) Tryd.func55 #[.string a0] ?_; (with_reducible refine (cmp_isNaN_string.calls a0 false _ A3.out).mono ?_); rintro e w' ⟨rfl, ⟨nd, rfl⟩⟩; refine ⟨_, rfl, ?_⟩) | ((with_reducible refine gate_callee (f := 55) rfl ?_); refine gL (some 10) Tryd.func55 #[.string a1] ?_; (with_reducible refine (cmp_isNaN_string.calls a1 true _ A4.out).mono ?_); rintro e w' ⟨rfl, ⟨nd, rfl⟩⟩; refine ⟨_, rfl, ?_⟩))
   go_ret
   exact ⟨by first | rfl | (simp; done) | (simp [*]; done), by repeat (first | exact Drawn0.refl _ | apply Drawn0.step)⟩
  ·replace c7 := Bool.eq_false_iff.mpr c7
   subst c7
   have H1 : (if (Op.bytesLess a0.toList a1.toList) = true then (some (-1)) else (if (Op.bytesLess a1.toList a0.toList) = true then (some 1) else (some 0))) = some r := by rw [if_neg (show ¬ (false = true) by decide)] at H; exact H
   clear H
   have H := H1
   clear H1
   by_cases c8 : (Op.bytesLess a0.toList a1.toList) = true
   ·rw [if_pos c8] at H
    have c8b0 : (Op.bytesLess a0.toList a1.toList) = true := c8
    clear c8
    obtain rfl := Option.some.inj H
    go_enter Tryd.func50, Tryd.ntmps50
    go_wp2_with (first | ((with_reducible refine gate_callee (f := 55) rfl ?_); refine gL (some 8) Tryd.func55 #[.string a0] ?_; (with_reducible refine (cmp_isNaN_string.calls a0 false _ A3.out).mono ?_); rintro e w' ⟨rfl, ⟨nd, rfl⟩⟩; refine ⟨_, rfl, ?_⟩) | ((with_reducible refine gate_callee (f := 55) rfl ?_); refine gL (some 10) Tryd.func55 #[.string a1] ?_; (with_reducible refine (cmp_isNaN_string.calls a1 false _ A4.out).mono ?_); rintro e w' ⟨rfl, ⟨nd, rfl⟩⟩; refine ⟨_, rfl, ?_⟩))
    go_ret
    exact ⟨by first | rfl | (simp; done) | (simp [*]; done), by repeat (first | exact Drawn0.refl _ | apply Drawn0.step)⟩
   ·rw [if_neg c8] at H
    have c8b0 : (Op.bytesLess a0.toList a1.toList) = false := by simpa using c8
    clear c8
    by_cases c9 : (Op.bytesLess a1.toList a0.toList) = true
    ·rw [if_pos c9] at H
     have c9b0 : (Op.bytesLess a1.toList a0.toList) = true := c9
     clear c9
     obtain rfl := Option.some.inj H
     go_enter Tryd.func50, Tryd.ntmps50
     go_wp2_with (first | ((with_reducible refine gate_callee (f := 55) rfl ?_); refine gL (some 8) Tryd.func55 #[.string a0] ?_; (with_reducible refine (cmp_isNaN_string.calls a0 false _ A3.out).mono ?_); rintro e w' ⟨rfl, ⟨nd, rfl⟩⟩; refine ⟨_, rfl, ?_⟩) | ((with_reducible refine gate_callee (f := 55) rfl ?_); refine gL (some 10) Tryd.func55 #[.string a1] ?_; (with_reducible refine (cmp_isNaN_string.calls a1 false _ A4.out).mono ?_); rintro e w' ⟨rfl, ⟨nd, rfl⟩⟩; refine ⟨_, rfl, ?_⟩))
     go_ret
     exact ⟨by first | rfl | (simp; done) | (simp [*]; done), by repeat (first | exact Drawn0.refl _ | apply Drawn0.step)⟩
    ·rw [if_neg c9] at H
     have c9b0 : (Op.bytesLess a1.toList a0.toList) = false := by simpa using c9
     clear c9
     obtain rfl := Option.some.inj H
     go_enter Tryd.func50, Tryd.ntmps50
     go_wp2_with (first | ((with_reducible refine gate_callee (f := 55) rfl ?_); refine gL (some 8) Tryd.func55 #[.string a0] ?_; (with_reducible refine (cmp_isNaN_string.calls a0 false _ A3.out).mono ?_); rintro e w' ⟨rfl, ⟨nd, rfl⟩⟩; refine ⟨_, rfl, ?_⟩) | ((with_reducible refine gate_callee (f := 55) rfl ?_); refine gL (some 10) Tryd.func55 #[.string a1] ?_; (with_reducible refine (cmp_isNaN_string.calls a1 false _ A4.out).mono ?_); rintro e w' ⟨rfl, ⟨nd, rfl⟩⟩; refine ⟨_, rfl, ?_⟩))
     go_ret
     exact ⟨by first | rfl | (simp; done) | (simp [*]; done), by repeat (first | exact Drawn0.refl _ | apply Drawn0.step)⟩

/-! ### octet_Cmp: function 40 -/
def octet_Cmp.f (a0 : ByteArray) (a1 : ByteArray) : Option (Int) := (cmp_Compare_string.f a0 a1).bind fun t149 => (some t149)
set_option maxHeartbeats 8000000 in
set_option maxRecDepth 100000 in
theorem octet_Cmp.calls (a0 : ByteArray) (a1 : ByteArray) (r : Int) (w : World) (h : octet_Cmp.f a0 a1 = some r) :
  Calls Tryd.prog 40 #[.string a0, .string a1] w fun e w' => e = .returned (.int .i64 r) ∧ Drawn0 w w' := by
 have H : ((cmp_Compare_string.f a0 a1).bind fun t149 => (some t149)) = some r := h
 clear h
 replace H := Option.bind_eq_some_iff.mp H
 obtain ⟨t149, A30, H⟩ := H
 replace H : (some t149) = some r := H
 have A3 := Aside0.mk A30
 clear A30
 obtain rfl := Option.some.inj H
 go_enter Tryd.func40, Tryd.ntmps40
 go_wp2_with (first | ((with_reducible refine gate_callee (f := 50) rfl ?_); refine gL (some 7) Tryd.func50 #[.string a0, .string a1] ?_; (with_reducible refine (cmp_Compare_string.calls a0 a1 t149 _ A3.out).mono ?_); rintro e w' ⟨rfl, ⟨nd, rfl⟩⟩; refine ⟨_, rfl, ?_⟩))
 go_ret
 exact ⟨by first | rfl | (simp; done) | (simp [*]; done), by repeat (first | exact Drawn0.refl _ | apply Drawn0.step)⟩

end Go.Proofs.YtjadpeahoaogcaaDoor.P
