-- Written by this project's own program (wip/tools/hp.py), driving the kit's print; hand texts among it. Not trusted: Lean checks it.
-- half the indentation
import Derived.Test.YtomjppafgalaoaaDoorThin
import Derived.Test.YtomjppafgalaoaaDoorP0
import Derived.Test.YtomjppafgalaoaaDoorP4
import Derived.Test.YtomjppafgalaoaaDoorP9
import Derived.Test.YtomjppafgalaoaaDoorP11
import Derived.Test.YtomjppafgalaoaaDoorP12
import Derived.Test.YtomjppafgalaoaaDoorP13
import Derived.Test.YtomjppafgalaoaaDoorP16
namespace Go.Proofs.YtomjppafgalaoaaDoor.P
open Go.RowKit Go.Proofs.YtomjppafgalaoaaDoorW.PrintWords Go.Proofs.YtomjppafgalaoaaDoorW.PrintLast Go.Proofs.YtomjppafgalaoaaDoorW.PrintMore
attribute [local go_sem] max2_int min2_int max_two min_two max_three min_three max_four min_four   -- for this text's walks alone
set_option linter.unusedVariables false
set_option linter.unusedSimpArgs false

/-! ### strings_ContainsAny: function 67 -/
def strings_ContainsAny.f (a0 : ByteArray) (a1 : ByteArray) : Option (Bool) := (strings_IndexAny.f a0 a1).bind fun a6 => (some (decide (a6 ≥ 0)))
set_option maxHeartbeats 8000000 in
set_option maxRecDepth 100000 in
theorem strings_ContainsAny.calls (a0 : ByteArray) (a1 : ByteArray) (r : Bool) (w : World) (h : strings_ContainsAny.f a0 a1 = some r) :
  Calls Tryd.prog 67 #[.string a0, .string a1] w fun e w' => e = .returned (.bool r) ∧ Below w.heap.size w w' := by
 have HB := am (Below.refl w.heap.size w)
 have H : ((strings_IndexAny.f a0 a1).bind fun a6 => (some (decide (a6 ≥ 0)))) = some r := h
 clear h
 replace H := Option.bind_eq_some_iff.mp H
 obtain ⟨a6, A30, H⟩ := H
 replace H : (some (decide (a6 ≥ 0))) = some r := H
 have A3 := Aside0.mk A30
 clear A30
 obtain rfl := Option.some.inj H
 go_enter Tryd.func67, Tryd.ntmps67
 go_wp2_with (first | ((with_reducible refine gate_callee (f := 72) rfl ?_); refine gL (some 7) Tryd.func72 #[.string a0, .string a1] ?_; (with_reducible refine (strings_IndexAny.calls a0 a1 a6 _ A3.out).mono ?_); rintro e w4 ⟨rfl, hb⟩; refine ⟨_, rfl, ?_⟩; replace HB := am (sT HB.out hb); (try clear hb); (try clear hb2); (try clear hk); (try clear hi)))
 go_ret
 exact ⟨by first | rfl | (simp [errW_none, errW_some] <;> rfl) | (simp [*, errW_none, errW_some] <;> rfl), eT HB.out⟩

/-! ### version_word: function 58 -/
def version_word.j0 : Nat → ByteArray → Bool → Option (Bool)
 | 0, _, _ => none
 | k + 1, x0, x14 => if x14 = true then (some false) else ((number_May.f x0).bind fun a7 => (if a7 = true then (some true) else ((octet_All.f x0 (([1] : List Int))).bind fun aH => (some (!aH)))))
def version_word.f (k : Nat) (a0 : ByteArray) : Option (Bool) := if a0.toList = ([] : List UInt8) then (version_word.j0 k a0 true) else ((strings_ContainsAny.f a0 (⟨#[46, 95, 126]⟩ : ByteArray)).bind fun a8 => (if a8 = true then (version_word.j0 k a0 true) else ((octet_All.f a0 (([1, 2, 3] : List Int))).bind fun aF => (version_word.j0 k a0 (!aF)))))
theorem version_word.mono_l : ∀ k, (∀ y0 y1, LeO (version_word.j0 k y0 y1) (version_word.j0 (k + 1) y0 y1))
 | 0 => fun _ _ r h => by simp [version_word.j0] at h
 | k + 1 => by
  have ih0 := version_word.mono_l k
  ·intro y0 y1
   unfold version_word.j0
   repeat' first
   | (with_reducible exact ih0 _ _)
   | (with_reducible exact LeO.refl _)
   | (with_reducible exact LeO.none _)
   | (with_reducible refine LeO.ite ?_ ?_)
   | (with_reducible refine LeO.bind ?_ (fun _ => ?_))
   | exact ih0 _ _
   | exact LeO.none _
   | refine LeO.ite ?_ ?_
   | refine LeO.bind ?_ (fun _ => ?_)
theorem version_word.mono : ∀ a0 k, LeO (version_word.f k a0) (version_word.f (k + 1) a0) := by
 intro a0 k
 have ih0 := version_word.mono_l k
 unfold version_word.f
 repeat' first
   | (with_reducible exact ih0 _ _)
   | (with_reducible exact LeO.refl _)
   | (with_reducible exact LeO.none _)
   | (with_reducible refine LeO.ite ?_ ?_)
   | (with_reducible refine LeO.bind ?_ (fun _ => ?_))
   | exact ih0 _ _
   | exact LeO.none _
   | refine LeO.ite ?_ ?_
   | refine LeO.bind ?_ (fun _ => ?_)
set_option maxHeartbeats 8000000 in
set_option maxRecDepth 100000 in
theorem version_word.calls (k : Nat) (a0 : ByteArray) (r : Bool) (w : World) (h : version_word.f k a0 = some r) :
  Calls Tryd.prog 58 #[.string a0] w fun e w' => e = .returned (.bool r) ∧ Below w.heap.size w w' := by
 have HB := am (Below.refl w.heap.size w)
 have H : (if a0.toList = ([] : List UInt8) then (version_word.j0 k a0 true) else ((strings_ContainsAny.f a0 (⟨#[46, 95, 126]⟩ : ByteArray)).bind fun a8 => (if a8 = true then (version_word.j0 k a0 true) else ((octet_All.f a0 (([1, 2, 3] : List Int))).bind fun aF => (version_word.j0 k a0 (!aF)))))) = some r := h
 clear h
 have HC2 := Aside0.mk H
 clear H
 go_enter Tryd.func58, Tryd.ntmps58
 go_upto_region 1 with (fail)
 go_cut [14] (fun v14 wc => ∃ (kq : Nat) (aX : Bool), v14 = .bool aX ∧ Aside0 (version_word.j0 kq a0 aX = some r) ∧ Aside0 (kq ≤ k) ∧ Aside0 (Below w.heap.size w wc))
 case first =>
  have H := HC2.out
  clear HC2
  by_cases c3 : a0.toList = ([] : List UInt8)
  ·rw [if_pos c3] at H
   have aV : (a0.toList == ([] : List UInt8)) = true := beq_iff_eq.mpr c3
   have bL : (a0.toList != ([] : List UInt8)) = false := bne_eq_false_iff_eq.mpr c3
   clear c3
   (first | rw [aV] | (simp only [i64_w, i32_w]; rw [aV]) | skip)
   have H' := Aside0.mk H
   clear H
   go_wp2
   go_meet
   case rel => exact ⟨_, (true), (by first | rfl | (simp; done) | (simp [*]; done)), H', ⟨by first | omega | exact Nat.le_refl _⟩, ⟨eT HB.out⟩⟩
  ·rw [if_neg c3] at H
   have aV : (a0.toList == ([] : List UInt8)) = false := beq_eq_false_iff_ne.mpr c3
   have bL : (a0.toList != ([] : List UInt8)) = true := bne_iff_ne.mpr c3
   (first | rw [aV] | (simp only [i64_w, i32_w]; rw [aV]) | skip)
   replace H := Option.bind_eq_some_iff.mp H
   obtain ⟨a8, A40, H⟩ := H
   replace H : (if a8 = true then (version_word.j0 k a0 true) else ((octet_All.f a0 (([1, 2, 3] : List Int))).bind fun aF => (version_word.j0 k a0 (!aF)))) = some r := H
   have A4 := Aside0.mk A40
   clear A40
   by_cases c5 : a8 = true
   ·subst c5
    have H1 : (version_word.j0 k a0 true) = some r := by rw [if_pos rfl] at H; exact H
    clear H
    have H := H1
    clear H1
    have H' := Aside0.mk H
    clear H
    go_wp2_with (first | (go_at_call 67; (with_reducible refine (strings_ContainsAny.calls a0 (⟨#[46, 95, 126]⟩ : ByteArray) true _ A4.out).mono ?_); rintro e w6 ⟨rfl, hb⟩; replace HB := am (sT HB.out hb); (try clear hb); (try clear hb2); (try clear hk); (try clear hi)))
    go_meet
    case rel => exact ⟨_, (true), (by first | rfl | (simp; done) | (simp [*]; done)), H', ⟨by first | omega | exact Nat.le_refl _⟩, ⟨eT HB.out⟩⟩
   ·replace c5 := Bool.eq_false_iff.mpr c5
    subst c5
    have H1 : ((octet_All.f a0 (([1, 2, 3] : List Int))).bind fun aF => (version_word.j0 k a0 (!aF))) = some r := by rw [if_neg (show ¬ (false = true) by decide)] at H; exact H
    clear H
    have H := H1
    clear H1
    obtain ⟨bM, aN⟩ : ∃ y_ : List Int, y_ = (([1, 2, 3] : List Int)) := ⟨_, rfl⟩
    replace H : ((octet_All.f a0 bM).bind fun aF => (version_word.j0 k a0 (!aF))) = some r := by first | (rw [aN]; with_reducible exact H) | (have H2_ := (Option.bind_some _ _).symm.trans H; rw [aN]; with_reducible exact H2_) | (have H2_ := (Option.bind_some _ _).symm.trans H; with_reducible exact H2_) | with_reducible exact H | (rw [aN]; exact H) | exact H
    have Ny144 := Aside0.mk aN
    clear aN
    replace H := Option.bind_eq_some_iff.mp H
    obtain ⟨aF, A70, H⟩ := H
    replace H : (version_word.j0 k a0 (!aF)) = some r := H
    have A7 := Aside0.mk A70
    clear A70
    have H' := Aside0.mk H
    clear H
    go_wp2_with (first | (go_at_call 67; (with_reducible refine (strings_ContainsAny.calls a0 (⟨#[46, 95, 126]⟩ : ByteArray) false _ A4.out).mono ?_); rintro e w8 ⟨rfl, hb⟩; replace HB := am (sT HB.out hb); (try clear hb); (try clear hb2); (try clear hk); (try clear hi)) | ((with_reducible refine gate_dst (N := 11) rfl ?_); (try (refine gate_guard (by rfl) ?_; dsimp only)); refine Kd.R_lit (Kd.int .i64) _ 3 ?hg (N := 11) ?hd (xs := ([1, 2, 3] : List Int)) (inner := [.int .i64 1, .int .i64 2, .int .i64 3]) (ok := fun _ => True) (okp := fun _ => True) ?hr ?hp (fun _ hk => hk) trivial (Below.refl _ _) (Nat.le_refl _) (by simp) ?_; (case hd => rfl); (case hg => rfl); (case hr => first | (go_simp; done) | (go_simp; rfl)); (case hp => exact (Reps.one (show Kd.M (Kd.int .i64) _ _ _ 1 [.int .i64 1] from rfl) (Reps.one (show Kd.M (Kd.int .i64) _ _ _ 2 [.int .i64 2] from rfl) (Reps.one (show Kd.M (Kd.int .i64) _ _ _ 3 [.int .i64 3] from rfl) (Reps.none _ _))))); intro eo w9 ho10 hb hg_ hnew_; clear hg_ hnew_; (first | rw [← Ny144.out] at ho10 | (simp only [Int.reduceToNat] at ho10; rw [← Ny144.out] at ho10)); have aO := am (Kd.R_lower ho10 (below_size (eT HB.out))); replace HB := am (sT HB.out hb); clear hb ho10; obtain ⟨ep, eq, dw⟩ := Kd.R_slice aO.out; subst dw) | (go_at_call 66; (with_reducible refine (octet_All.calls a0 _ _ bM aF _ ?side1 ?side2 A7.out).mono ?_); (case side1 => repeat (first | exact (Kd.R_reads' aO.out).2.2 | (with_reducible refine Kd.C_alloc ?_ _) | (with_reducible refine Kd.C_drewN ?_ _) | (with_reducible refine Kd.C_drew ?_))); (case side2 => exact (Kd.R_reads' aO.out).2.1); rintro e w12 ⟨rfl, hb⟩; replace aO := am (rB aO.out hb); replace HB := am (sT HB.out hb); (try clear hb); (try clear hb2); (try clear hk); (try clear hi)))
    go_meet
    case rel => exact ⟨_, (!aF), (by first | rfl | (simp; done) | (simp [*]; done)), H', ⟨by first | omega | exact Nat.le_refl _⟩, ⟨eT HB.out⟩⟩
 case rest =>
  clear HC2
  try clear p2
  try clear c3
  try clear aV
  try clear bL
  try clear c5
  obtain ⟨kq, aX, rfl, HA, HJ1, HB⟩ := hcut
  cases kq with
  | zero => exact absurd HA.out (by simp [version_word.j0])
  | succ kj1 =>
   have H := HA.out
   clear HA
   simp only [version_word.j0] at H
   by_cases c13 : aX = true
   ·subst c13
    have H1 : (some false) = some r := by rw [if_pos rfl] at H; exact H
    clear H
    have H := H1
    clear H1
    obtain rfl := Option.some.inj H
    go_wp2
    go_ret
    exact ⟨by first | rfl | (simp [errW_none, errW_some] <;> rfl) | (simp [*, errW_none, errW_some] <;> rfl), eT HB.out⟩
   ·replace c13 := Bool.eq_false_iff.mpr c13
    subst c13
    have H1 : ((number_May.f a0).bind fun a7 => (if a7 = true then (some true) else ((octet_All.f a0 (([1] : List Int))).bind fun aH => (some (!aH))))) = some r := by rw [if_neg (show ¬ (false = true) by decide)] at H; exact H
    clear H
    have H := H1
    clear H1
    replace H := Option.bind_eq_some_iff.mp H
    obtain ⟨a7, bN, H⟩ := H
    replace H : (if a7 = true then (some true) else ((octet_All.f a0 (([1] : List Int))).bind fun aH => (some (!aH)))) = some r := H
    have A14 := Aside0.mk bN
    clear bN
    by_cases c15 : a7 = true
    ·subst c15
     have H1 : (some true) = some r := by rw [if_pos rfl] at H; exact H
     clear H
     have H := H1
     clear H1
     obtain rfl := Option.some.inj H
     go_wp2_with (first | ((with_reducible refine gate_callee (f := 57) rfl ?_); refine gL (some 16) Tryd.func57 #[.string a0] ?_; (with_reducible refine (number_May.calls a0 true _ A14.out).mono ?_); rintro e w16 ⟨rfl, hb⟩; refine ⟨_, rfl, ?_⟩; replace HB := am (sT HB.out hb); (try clear hb); (try clear hb2); (try clear hk); (try clear hi)))
     go_ret
     exact ⟨by first | rfl | (simp [errW_none, errW_some] <;> rfl) | (simp [*, errW_none, errW_some] <;> rfl), eT HB.out⟩
    ·replace c15 := Bool.eq_false_iff.mpr c15
     subst c15
     have H1 : ((octet_All.f a0 (([1] : List Int))).bind fun aH => (some (!aH))) = some r := by rw [if_neg (show ¬ (false = true) by decide)] at H; exact H
     clear H
     have H := H1
     clear H1
     obtain ⟨bO, aP⟩ : ∃ y_ : List Int, y_ = (([1] : List Int)) := ⟨_, rfl⟩
     replace H : ((octet_All.f a0 bO).bind fun aH => (some (!aH))) = some r := by first | (rw [aP]; with_reducible exact H) | (have H2_ := (Option.bind_some _ _).symm.trans H; rw [aP]; with_reducible exact H2_) | (have H2_ := (Option.bind_some _ _).symm.trans H; with_reducible exact H2_) | with_reducible exact H | (rw [aP]; exact H) | exact H
     have Ny149 := Aside0.mk aP
     clear aP
     replace H := Option.bind_eq_some_iff.mp H
     obtain ⟨aH, bP, H⟩ := H
     replace H : (some (!aH)) = some r := H
     have A17 := Aside0.mk bP
     clear bP
     obtain rfl := Option.some.inj H
     go_wp2_with (first | ((with_reducible refine gate_callee (f := 57) rfl ?_); refine gL (some 16) Tryd.func57 #[.string a0] ?_; (with_reducible refine (number_May.calls a0 false _ A14.out).mono ?_); rintro e w18 ⟨rfl, hb⟩; refine ⟨_, rfl, ?_⟩; replace HB := am (sT HB.out hb); (try clear hb); (try clear hb2); (try clear hk); (try clear hi)) | ((with_reducible refine gate_dst (N := 19) rfl ?_); (try (refine gate_guard (by rfl) ?_; dsimp only)); refine Kd.R_lit (Kd.int .i64) _ 3 ?hg (N := 19) ?hd (xs := ([1] : List Int)) (inner := [.int .i64 1]) (ok := fun _ => True) (okp := fun _ => True) ?hr ?hp (fun _ hk => hk) trivial (Below.refl _ _) (Nat.le_refl _) (by simp) ?_; (case hd => rfl); (case hg => rfl); (case hr => first | (go_simp; done) | (go_simp; rfl)); (case hp => exact (Reps.one (show Kd.M (Kd.int .i64) _ _ _ 1 [.int .i64 1] from rfl) (Reps.none _ _))); intro er w19 ho20 hb hg_ hnew_; clear hg_ hnew_; (first | rw [← Ny149.out] at ho20 | (simp only [Int.reduceToNat] at ho20; rw [← Ny149.out] at ho20)); have aQ := am (Kd.R_lower ho20 (below_size (eT HB.out))); replace HB := am (sT HB.out hb); clear hb ho20; obtain ⟨es, et, dx⟩ := Kd.R_slice aQ.out; subst dx) | (go_at_call 66; (with_reducible refine (octet_All.calls a0 _ _ bO aH _ ?side1 ?side2 A17.out).mono ?_); (case side1 => repeat (first | exact (Kd.R_reads' aQ.out).2.2 | (with_reducible refine Kd.C_alloc ?_ _) | (with_reducible refine Kd.C_drewN ?_ _) | (with_reducible refine Kd.C_drew ?_))); (case side2 => exact (Kd.R_reads' aQ.out).2.1); rintro e w22 ⟨rfl, hb⟩; replace aQ := am (rB aQ.out hb); replace HB := am (sT HB.out hb); (try clear hb); (try clear hb2); (try clear hk); (try clear hi)))
     go_ret
     exact ⟨by first | rfl | (simp [errW_none, errW_some] <;> rfl) | (simp [*, errW_none, errW_some] <;> rfl), eT HB.out⟩

/-! ### version_Split: function 46 -/
mutual
def version_Split.j0 : Nat → ByteArray → Bool → List ByteArray → Bool → Option (ByteArray × ByteArray × ByteArray × List ByteArray × Int)
 | 0, _, _, _, _ => none
 | k + 1, x5, x6, x7, x47 => if x47 = true then (some ((⟨#[]⟩ : ByteArray), (⟨#[]⟩ : ByteArray), (⟨#[]⟩ : ByteArray), ([] : List ByteArray), 1)) else (if 0 < (x7.length : Int) then (if 1 < (x7.length : Int) then (if 2 < (x7.length : Int) then (if x6 = true then ((octet_Parts.f x5 46).bind fun ai => (version_Split.l0 k ai (ai.length : Int) 0 (rdOf ByteArray.empty x7 0) (rdOf ByteArray.empty x7 1) (rdOf ByteArray.empty x7 2) ai)) else (some (rdOf ByteArray.empty x7 0, rdOf ByteArray.empty x7 1, rdOf ByteArray.empty x7 2, ([] : List ByteArray), 0))) else (none)) else (none)) else (none))
def version_Split.l0 : Nat → List ByteArray → Int → Int → ByteArray → ByteArray → ByteArray → List ByteArray → Option (ByteArray × ByteArray × ByteArray × List ByteArray × Int)
 | 0, _, _, _, _, _, _, _ => none
 | k + 1, x66, x67, x68, aY, aZ, a2, a3 => if x68 < x67 then (if 0 ≤ x68 then (if x68 < (x66.length : Int) then ((version_word.f k (rdOf ByteArray.empty x66 x68)).bind fun bg => (if bg = true then (version_Split.l0 k x66 x67 (wrap64 (x68 + 1)) aY aZ a2 a3) else (some ((⟨#[]⟩ : ByteArray), (⟨#[]⟩ : ByteArray), (⟨#[]⟩ : ByteArray), ([] : List ByteArray), 1)))) else (none)) else (none)) else (some (aY, aZ, a2, a3, 0))
end
def version_Split.f (k : Nat) (a0 : ByteArray) : Option (ByteArray × ByteArray × ByteArray × List ByteArray × Int) := (strings_HasPrefix.f a0 (⟨#[118]⟩ : ByteArray)).bind fun a9 => (if a9 = true then (if 1 ≤ (a0.size : Int) then ((strings_Cut.f (a0.extract 1 a0.size) (⟨#[45]⟩ : ByteArray)).bind fun bt155 => ((octet_Parts.f bt155.1 46).bind fun aa => (if (aa.length : Int) = 3 then (if 0 < (aa.length : Int) then ((number_May.f (rdOf ByteArray.empty aa 0)).bind fun aE => (if aE = true then (if 1 < (aa.length : Int) then ((number_May.f (rdOf ByteArray.empty aa 1)).bind fun aC => (if aC = true then (if 2 < (aa.length : Int) then ((number_May.f (rdOf ByteArray.empty aa 2)).bind fun ay => (version_Split.j0 k bt155.2.1 bt155.2.2 aa (!ay))) else (none)) else (version_Split.j0 k bt155.2.1 bt155.2.2 aa true))) else (none)) else (version_Split.j0 k bt155.2.1 bt155.2.2 aa true))) else (none)) else (version_Split.j0 k bt155.2.1 bt155.2.2 aa true)))) else (none)) else (some ((⟨#[]⟩ : ByteArray), (⟨#[]⟩ : ByteArray), (⟨#[]⟩ : ByteArray), ([] : List ByteArray), 1)))
theorem version_Split.mono_l : ∀ k, (∀ y0 y1 y2 y3, LeO (version_Split.j0 k y0 y1 y2 y3) (version_Split.j0 (k + 1) y0 y1 y2 y3)) ∧ (∀ y0 y1 y2 y3 y4 y5 y6, LeO (version_Split.l0 k y0 y1 y2 y3 y4 y5 y6) (version_Split.l0 (k + 1) y0 y1 y2 y3 y4 y5 y6))
 | 0 => ⟨fun _ _ _ _ r h => by simp [version_Split.j0] at h, fun _ _ _ _ _ _ _ r h => by simp [version_Split.l0] at h⟩
 | k + 1 => by
  obtain ⟨ih0, ih1⟩ := version_Split.mono_l k
  refine ⟨?_, ?_⟩
  ·intro y0 y1 y2 y3
   unfold version_Split.j0
   repeat' first
   | (with_reducible exact ih0 _ _ _ _)
   | (with_reducible exact ih1 _ _ _ _ _ _ _)
   | (with_reducible exact version_word.mono _ _)
   | (with_reducible exact LeO.refl _)
   | (with_reducible exact LeO.none _)
   | (with_reducible refine LeO.ite ?_ ?_)
   | (with_reducible refine LeO.bind ?_ (fun _ => ?_))
   | exact ih0 _ _ _ _
   | exact ih1 _ _ _ _ _ _ _
   | exact version_word.mono _ _
   | exact LeO.none _
   | refine LeO.ite ?_ ?_
   | refine LeO.bind ?_ (fun _ => ?_)
  ·intro y0 y1 y2 y3 y4 y5 y6
   unfold version_Split.l0
   repeat' first
   | (with_reducible exact ih0 _ _ _ _)
   | (with_reducible exact ih1 _ _ _ _ _ _ _)
   | (with_reducible exact version_word.mono _ _)
   | (with_reducible exact LeO.refl _)
   | (with_reducible exact LeO.none _)
   | (with_reducible refine LeO.ite ?_ ?_)
   | (with_reducible refine LeO.bind ?_ (fun _ => ?_))
   | exact ih0 _ _ _ _
   | exact ih1 _ _ _ _ _ _ _
   | exact version_word.mono _ _
   | exact LeO.none _
   | refine LeO.ite ?_ ?_
   | refine LeO.bind ?_ (fun _ => ?_)
theorem version_Split.mono : ∀ a0 k, LeO (version_Split.f k a0) (version_Split.f (k + 1) a0) := by
 intro a0 k
 obtain ⟨ih0, ih1⟩ := version_Split.mono_l k
 unfold version_Split.f
 repeat' first
   | (with_reducible exact ih0 _ _ _ _)
   | (with_reducible exact ih1 _ _ _ _ _ _ _)
   | (with_reducible exact version_word.mono _ _)
   | (with_reducible exact LeO.refl _)
   | (with_reducible exact LeO.none _)
   | (with_reducible refine LeO.ite ?_ ?_)
   | (with_reducible refine LeO.bind ?_ (fun _ => ?_))
   | exact ih0 _ _ _ _
   | exact ih1 _ _ _ _ _ _ _
   | exact version_word.mono _ _
   | exact LeO.none _
   | refine LeO.ite ?_ ?_
   | refine LeO.bind ?_ (fun _ => ?_)
def version_Split.T7 : Bool × List (List Nat × List Nat) := (true, [([], []), ([0], [0]), ([1], [1]), ([], []), ([3], [3]), ([4], [4]), ([], []), ([6], [6]), ([7], [7]), ([2, 5, 8], [2, 5, 8]), ([], []), ([10, 9, 0, 1, 2, 3, 4, 5, 6, 7, 8, 9, 10], [9, 10])])
def version_Split.B7 : List Nat := [0, 1, 3, 0, 8, 24, 0, 64, 192, 511, 0, 2047]
theorem version_Split.tab7 : rtab .any (opsOf Tryd.f46 7) = version_Split.T7 := by kernel_rfl
theorem version_Split.bits7 : waitsOk version_Split.T7.2 version_Split.B7 = true := by kernel_rfl
set_option maxHeartbeats 8000000 in
set_option maxRecDepth 100000 in
theorem version_Split.calls (k : Nat) (a0 : ByteArray) (r1 : ByteArray) (r2 : ByteArray) (r3 : ByteArray) (r4 : List ByteArray) (r5 : Int) (w : World) (h : version_Split.f k a0 = some (r1, r2, r3, r4, r5)) :
  Calls Tryd.prog 46 #[.string a0] w fun e w' => ∃ v3_ : Value, e = .returned (.tuple #[.agg #[.string r1, .string r2, .string r3, v3_], .int .i64 r5]) ∧ Kd.R Kd.string 9 w' w.heap.size (fun _ => True) v3_ r4 ∧ Below w.heap.size w w' := by
 have hu71 := Tryd.underlying71
 have HB := am (Below.refl w.heap.size w)
 have H : ((strings_HasPrefix.f a0 (⟨#[118]⟩ : ByteArray)).bind fun a9 => (if a9 = true then (if 1 ≤ (a0.size : Int) then ((strings_Cut.f (a0.extract 1 a0.size) (⟨#[45]⟩ : ByteArray)).bind fun bt155 => ((octet_Parts.f bt155.1 46).bind fun aa => (if (aa.length : Int) = 3 then (if 0 < (aa.length : Int) then ((number_May.f (rdOf ByteArray.empty aa 0)).bind fun aE => (if aE = true then (if 1 < (aa.length : Int) then ((number_May.f (rdOf ByteArray.empty aa 1)).bind fun aC => (if aC = true then (if 2 < (aa.length : Int) then ((number_May.f (rdOf ByteArray.empty aa 2)).bind fun ay => (version_Split.j0 k bt155.2.1 bt155.2.2 aa (!ay))) else (none)) else (version_Split.j0 k bt155.2.1 bt155.2.2 aa true))) else (none)) else (version_Split.j0 k bt155.2.1 bt155.2.2 aa true))) else (none)) else (version_Split.j0 k bt155.2.1 bt155.2.2 aa true)))) else (none)) else (some ((⟨#[]⟩ : ByteArray), (⟨#[]⟩ : ByteArray), (⟨#[]⟩ : ByteArray), ([] : List ByteArray), 1)))) = some (r1, r2, r3, r4, r5) := h
 clear h
 replace H := Option.bind_eq_some_iff.mp H
 obtain ⟨a9, A20, H⟩ := H
 replace H : (if a9 = true then (if 1 ≤ (a0.size : Int) then ((strings_Cut.f (a0.extract 1 a0.size) (⟨#[45]⟩ : ByteArray)).bind fun bt155 => ((octet_Parts.f bt155.1 46).bind fun aa => (if (aa.length : Int) = 3 then (if 0 < (aa.length : Int) then ((number_May.f (rdOf ByteArray.empty aa 0)).bind fun aE => (if aE = true then (if 1 < (aa.length : Int) then ((number_May.f (rdOf ByteArray.empty aa 1)).bind fun aC => (if aC = true then (if 2 < (aa.length : Int) then ((number_May.f (rdOf ByteArray.empty aa 2)).bind fun ay => (version_Split.j0 k bt155.2.1 bt155.2.2 aa (!ay))) else (none)) else (version_Split.j0 k bt155.2.1 bt155.2.2 aa true))) else (none)) else (version_Split.j0 k bt155.2.1 bt155.2.2 aa true))) else (none)) else (version_Split.j0 k bt155.2.1 bt155.2.2 aa true)))) else (none)) else (some ((⟨#[]⟩ : ByteArray), (⟨#[]⟩ : ByteArray), (⟨#[]⟩ : ByteArray), ([] : List ByteArray), 1))) = some (r1, r2, r3, r4, r5) := H
 have A2 := Aside0.mk A20
 clear A20
 by_cases c3 : a9 = true
 ·subst c3
  have H1 : (if 1 ≤ (a0.size : Int) then ((strings_Cut.f (a0.extract 1 a0.size) (⟨#[45]⟩ : ByteArray)).bind fun bt155 => ((octet_Parts.f bt155.1 46).bind fun aa => (if (aa.length : Int) = 3 then (if 0 < (aa.length : Int) then ((number_May.f (rdOf ByteArray.empty aa 0)).bind fun aE => (if aE = true then (if 1 < (aa.length : Int) then ((number_May.f (rdOf ByteArray.empty aa 1)).bind fun aC => (if aC = true then (if 2 < (aa.length : Int) then ((number_May.f (rdOf ByteArray.empty aa 2)).bind fun ay => (version_Split.j0 k bt155.2.1 bt155.2.2 aa (!ay))) else (none)) else (version_Split.j0 k bt155.2.1 bt155.2.2 aa true))) else (none)) else (version_Split.j0 k bt155.2.1 bt155.2.2 aa true))) else (none)) else (version_Split.j0 k bt155.2.1 bt155.2.2 aa true)))) else (none)) = some (r1, r2, r3, r4, r5) := by rw [if_pos rfl] at H; exact H
  clear H
  have H := H1
  clear H1
  by_cases c4 : 1 ≤ (a0.size : Int)
  ·rw [if_pos c4] at H
   have bK := eq_true c4
   have bQ : decide (1 ≤ (a0.size : Int)) = true := decide_eq_true c4
   clear c4
   replace H := Option.bind_eq_some_iff.mp H
   obtain ⟨⟨bh, aw, az⟩, A50, H⟩ := H
   replace H : ((octet_Parts.f bh 46).bind fun aa => (if (aa.length : Int) = 3 then (if 0 < (aa.length : Int) then ((number_May.f (rdOf ByteArray.empty aa 0)).bind fun aE => (if aE = true then (if 1 < (aa.length : Int) then ((number_May.f (rdOf ByteArray.empty aa 1)).bind fun aC => (if aC = true then (if 2 < (aa.length : Int) then ((number_May.f (rdOf ByteArray.empty aa 2)).bind fun ay => (version_Split.j0 k aw az aa (!ay))) else (none)) else (version_Split.j0 k aw az aa true))) else (none)) else (version_Split.j0 k aw az aa true))) else (none)) else (version_Split.j0 k aw az aa true))) = some (r1, r2, r3, r4, r5) := H
   have A5 := Aside0.mk A50
   clear A50
   replace H := Option.bind_eq_some_iff.mp H
   obtain ⟨aa, A60, H⟩ := H
   replace H : (if (aa.length : Int) = 3 then (if 0 < (aa.length : Int) then ((number_May.f (rdOf ByteArray.empty aa 0)).bind fun aE => (if aE = true then (if 1 < (aa.length : Int) then ((number_May.f (rdOf ByteArray.empty aa 1)).bind fun aC => (if aC = true then (if 2 < (aa.length : Int) then ((number_May.f (rdOf ByteArray.empty aa 2)).bind fun ay => (version_Split.j0 k aw az aa (!ay))) else (none)) else (version_Split.j0 k aw az aa true))) else (none)) else (version_Split.j0 k aw az aa true))) else (none)) else (version_Split.j0 k aw az aa true)) = some (r1, r2, r3, r4, r5) := H
   have A6 := Aside0.mk A60
   clear A60
   have HC7 := Aside0.mk H
   clear H
   go_enter Tryd.func46, Tryd.ntmps46
   go_upto_region 5 with (first | ((with_reducible refine gate_dst (N := 2) rfl ?_); refine box_event ?hg (N := 2) ?hd (cs := #[.string (⟨#[]⟩ : ByteArray), .string (⟨#[]⟩ : ByteArray), .string (⟨#[]⟩ : ByteArray), .slice none 0 0]) (t := 71) ?hr ?_; (case hd => rfl); (case hg => rfl); (case hr => first | (go_simp; done) | (go_simp; rfl)); intro ag hg w8 hbox hb; have ac := am (hbox); have bR := am ((gT hg HB.out)); have bS := am ((gT hg HB.out)); replace HB := am (sT HB.out hb); clear hb hbox hg) | ((with_reducible refine gate_callee (f := 55) rfl ?_); refine gL (some 12) Tryd.func55 #[.string a0, .string (⟨#[118]⟩ : ByteArray)] ?_; (with_reducible refine (strings_HasPrefix.calls a0 (⟨#[118]⟩ : ByteArray) true _ A2.out).mono ?_); rintro e w' ⟨rfl, ⟨nd, rfl⟩⟩; refine ⟨_, rfl, ?_⟩) | ((with_reducible refine gate_callee (f := 56) rfl ?_); refine gL (some 18) Tryd.func56 #[.string (a0.extract 1 a0.size), .string (⟨#[45]⟩ : ByteArray)] ?_; (with_reducible refine (strings_Cut.calls (a0.extract 1 a0.size) (⟨#[45]⟩ : ByteArray) bh aw az _ A5.out).mono ?_); rintro e w' ⟨rfl, ⟨nd, rfl⟩⟩; refine ⟨_, rfl, ?_⟩) | ((with_reducible refine gate_callee (f := 53) rfl ?_); refine gL (some 23) Tryd.func53 #[.string bh, .int .u8 46] ?_; (with_reducible refine (octet_Parts.calls bh 46 aa _ A6.out).mono ?_); rintro e w9 ⟨dy, rfl, ho0, hb⟩; refine ⟨_, rfl, ?_⟩; have ak := am (Kd.R_lower ho0 (below_size (eT HB.out))); replace ac := am (bB ac.out hb); replace HB := am (sT HB.out hb); (try clear hb); (try clear hb2); (try clear hk); (try clear hi); (try clear ho0)))
   (try simp only [Act.put, List.setIfInBounds_toArray, List.set_cons_zero, List.set_cons_succ])
   go_cut [47] (fun v47 wc => ∃ (kq : Nat) (a4 : Bool), v47 = .bool a4 ∧ Aside0 (version_Split.j0 kq aw az aa a4 = some (r1, r2, r3, r4, r5)) ∧ Aside0 (kq ≤ k) ∧ Aside0 (Kd.R Kd.string 9 wc w.heap.size (fun _ => True) dy aa) ∧ Aside0 (wc.heap[ag]? = some (.cells #[.string (⟨#[]⟩ : ByteArray), .string (⟨#[]⟩ : ByteArray), .string (⟨#[]⟩ : ByteArray), (.slice none 0 0)] 71 (0, 0))) ∧ Aside0 (Below w.heap.size w wc))
   case first =>
    have H := HC7.out
    clear HC7
    by_cases c10 : (aa.length : Int) = 3
    ·rw [if_pos c10] at H
     have aJ : ((aa.length : Int) == 3) = true := beq_iff_eq.mpr c10
     have bc : ((aa.length : Int) != 3) = false := bne_eq_false_iff_eq.mpr c10
     clear c10
     (first | rw [aJ] | (simp only [i64_w, i32_w]; rw [aJ]) | skip)
     by_cases c11 : 0 < (aa.length : Int)
     ·rw [if_pos c11] at H
      have bE : decide (0 < (aa.length : Int)) = true := decide_eq_true c11
      have bF : decide (0 < aa.length) = true := decide_eq_true (by omega)
      clear c11
      replace H := Option.bind_eq_some_iff.mp H
      obtain ⟨aE, bU, H⟩ := H
      replace H : (if aE = true then (if 1 < (aa.length : Int) then ((number_May.f (rdOf ByteArray.empty aa 1)).bind fun aC => (if aC = true then (if 2 < (aa.length : Int) then ((number_May.f (rdOf ByteArray.empty aa 2)).bind fun ay => (version_Split.j0 k aw az aa (!ay))) else (none)) else (version_Split.j0 k aw az aa true))) else (none)) else (version_Split.j0 k aw az aa true)) = some (r1, r2, r3, r4, r5) := H
      have A12 := Aside0.mk bU
      clear bU
      by_cases c13 : aE = true
      ·subst c13
       have H1 : (if 1 < (aa.length : Int) then ((number_May.f (rdOf ByteArray.empty aa 1)).bind fun aC => (if aC = true then (if 2 < (aa.length : Int) then ((number_May.f (rdOf ByteArray.empty aa 2)).bind fun ay => (version_Split.j0 k aw az aa (!ay))) else (none)) else (version_Split.j0 k aw az aa true))) else (none)) = some (r1, r2, r3, r4, r5) := by rw [if_pos rfl] at H; exact H
       clear H
       have H := H1
       clear H1
       by_cases c14 : 1 < (aa.length : Int)
       ·rw [if_pos c14] at H
        have bG : decide (1 < (aa.length : Int)) = true := decide_eq_true c14
        have bH : decide (1 < aa.length) = true := decide_eq_true (by omega)
        clear c14
        replace H := Option.bind_eq_some_iff.mp H
        obtain ⟨aC, bV, H⟩ := H
        replace H : (if aC = true then (if 2 < (aa.length : Int) then ((number_May.f (rdOf ByteArray.empty aa 2)).bind fun ay => (version_Split.j0 k aw az aa (!ay))) else (none)) else (version_Split.j0 k aw az aa true)) = some (r1, r2, r3, r4, r5) := H
        have A15 := Aside0.mk bV
        clear bV
        by_cases c16 : aC = true
        ·subst c16
         have H1 : (if 2 < (aa.length : Int) then ((number_May.f (rdOf ByteArray.empty aa 2)).bind fun ay => (version_Split.j0 k aw az aa (!ay))) else (none)) = some (r1, r2, r3, r4, r5) := by rw [if_pos rfl] at H; exact H
         clear H
         have H := H1
         clear H1
         by_cases c17 : 2 < (aa.length : Int)
         ·rw [if_pos c17] at H
          have bI : decide (2 < (aa.length : Int)) = true := decide_eq_true c17
          have bJ : decide (2 < aa.length) = true := decide_eq_true (by omega)
          clear c17
          replace H := Option.bind_eq_some_iff.mp H
          obtain ⟨ay, bW, H⟩ := H
          replace H : (version_Split.j0 k aw az aa (!ay)) = some (r1, r2, r3, r4, r5) := H
          have A18 := Aside0.mk bW
          clear bW
          have H' := Aside0.mk H
          clear H
          obtain ⟨eu, ev, dz⟩ := Kd.R_slice ak.out
          subst dz
          have p161 : 0 ≤ (0 : Int) := (by omega)
          have q161 : 0 < (aa.length : Int) := of_decide_eq_true (by first | (with_reducible assumption) | assumption)
          obtain ⟨ad161, e161, aq⟩ := Kd.at_string (Kd.R_reads' ak.out).2.2 0 p161 q161
          cases e161
          have qi161 : (0 < aa.length) = True := eq_true (by omega)
          (try rw [show ((0 : Int)).toNat = 0 from rfl] at aq)
          (try rw [Addr.add_zero'] at aq)
          replace p161 := eq_true p161
          replace q161 := eq_true q161
          go_wp2_with (first | (go_at_call 57; (with_reducible refine (number_May.calls (rdOf ByteArray.empty aa 0) true _ A12.out).mono ?_); rintro e w20 ⟨rfl, hb⟩; replace ak := am (rB ak.out hb); replace ac := am (bB ac.out hb); replace HB := am (sT HB.out hb); (try clear hb); (try clear hb2); (try clear hk); (try clear hi); have p163 : 0 ≤ (1 : Int) := (by omega); have q163 : 1 < (aa.length : Int) := of_decide_eq_true (by first | (with_reducible assumption) | assumption); obtain ⟨ad163, e163, aB⟩ := Kd.at_string (Kd.R_reads' ak.out).2.2 1 p163 q163; obtain rfl : ad161 = ad163 := (by injection e163); (try simp only [show (1 : Int).toNat = 1 from rfl, Nat.reduceMul, Nat.reduceEqDiff, Go.Addr.add, ↓reduceIte] at aB); have qi163 : (1 < aa.length) = True := eq_true (by omega); (try rw [show ((1 : Int)).toNat = 1 from rfl] at aB); replace p163 := eq_true p163; replace q163 := eq_true q163) | (go_at_call 57; (with_reducible refine (number_May.calls (rdOf ByteArray.empty aa 1) true _ A15.out).mono ?_); rintro e w21 ⟨rfl, hb⟩; replace ak := am (rB ak.out hb); replace ac := am (bB ac.out hb); replace HB := am (sT HB.out hb); (try clear hb); (try clear hb2); (try clear hk); (try clear hi); have p165 : 0 ≤ (2 : Int) := (by omega); have q165 : 2 < (aa.length : Int) := of_decide_eq_true (by first | (with_reducible assumption) | assumption); obtain ⟨ad165, e165, aI⟩ := Kd.at_string (Kd.R_reads' ak.out).2.2 2 p165 q165; obtain rfl : ad161 = ad165 := (by injection e165); (try simp only [show (2 : Int).toNat = 2 from rfl, Nat.reduceMul, Nat.reduceEqDiff, Go.Addr.add, ↓reduceIte] at aI); have qi165 : (2 < aa.length) = True := eq_true (by omega); (try rw [show ((2 : Int)).toNat = 2 from rfl] at aI); replace p165 := eq_true p165; replace q165 := eq_true q165) | (go_at_call 57; (with_reducible refine (number_May.calls (rdOf ByteArray.empty aa 2) ay _ A18.out).mono ?_); rintro e w22 ⟨rfl, hb⟩; replace ak := am (rB ak.out hb); replace ac := am (bB ac.out hb); replace HB := am (sT HB.out hb); (try clear hb); (try clear hb2); (try clear hk); (try clear hi)))
          go_meet
          case rel => exact ⟨_, (!ay), (by first | rfl | (simp; done) | (simp [*]; done)), H', ⟨by first | omega | exact Nat.le_refl _⟩, ⟨rT ak.out⟩, ⟨bT ac.out⟩, ⟨eT HB.out⟩⟩
         ·rw [if_neg c17] at H
          exact absurd H (by simp)
        ·replace c16 := Bool.eq_false_iff.mpr c16
         subst c16
         have H1 : (version_Split.j0 k aw az aa true) = some (r1, r2, r3, r4, r5) := by rw [if_neg (show ¬ (false = true) by decide)] at H; exact H
         clear H
         have H := H1
         clear H1
         have H' := Aside0.mk H
         clear H
         obtain ⟨ew, ex, dA⟩ := Kd.R_slice ak.out
         subst dA
         have p161 : 0 ≤ (0 : Int) := (by omega)
         have q161 : 0 < (aa.length : Int) := of_decide_eq_true (by first | (with_reducible assumption) | assumption)
         obtain ⟨ad161, e161, aq⟩ := Kd.at_string (Kd.R_reads' ak.out).2.2 0 p161 q161
         cases e161
         have qi161 : (0 < aa.length) = True := eq_true (by omega)
         (try rw [show ((0 : Int)).toNat = 0 from rfl] at aq)
         (try rw [Addr.add_zero'] at aq)
         replace p161 := eq_true p161
         replace q161 := eq_true q161
         go_wp2_with (first | (go_at_call 57; (with_reducible refine (number_May.calls (rdOf ByteArray.empty aa 0) true _ A12.out).mono ?_); rintro e w24 ⟨rfl, hb⟩; replace ak := am (rB ak.out hb); replace ac := am (bB ac.out hb); replace HB := am (sT HB.out hb); (try clear hb); (try clear hb2); (try clear hk); (try clear hi); have p163 : 0 ≤ (1 : Int) := (by omega); have q163 : 1 < (aa.length : Int) := of_decide_eq_true (by first | (with_reducible assumption) | assumption); obtain ⟨ad163, e163, aB⟩ := Kd.at_string (Kd.R_reads' ak.out).2.2 1 p163 q163; obtain rfl : ad161 = ad163 := (by injection e163); (try simp only [show (1 : Int).toNat = 1 from rfl, Nat.reduceMul, Nat.reduceEqDiff, Go.Addr.add, ↓reduceIte] at aB); have qi163 : (1 < aa.length) = True := eq_true (by omega); (try rw [show ((1 : Int)).toNat = 1 from rfl] at aB); replace p163 := eq_true p163; replace q163 := eq_true q163) | (go_at_call 57; (with_reducible refine (number_May.calls (rdOf ByteArray.empty aa 1) false _ A15.out).mono ?_); rintro e w25 ⟨rfl, hb⟩; replace ak := am (rB ak.out hb); replace ac := am (bB ac.out hb); replace HB := am (sT HB.out hb); (try clear hb); (try clear hb2); (try clear hk); (try clear hi)))
         go_meet
         case rel => exact ⟨_, (true), (by first | rfl | (simp; done) | (simp [*]; done)), H', ⟨by first | omega | exact Nat.le_refl _⟩, ⟨rT ak.out⟩, ⟨bT ac.out⟩, ⟨eT HB.out⟩⟩
       ·rw [if_neg c14] at H
        exact absurd H (by simp)
      ·replace c13 := Bool.eq_false_iff.mpr c13
       subst c13
       have H1 : (version_Split.j0 k aw az aa true) = some (r1, r2, r3, r4, r5) := by rw [if_neg (show ¬ (false = true) by decide)] at H; exact H
       clear H
       have H := H1
       clear H1
       have H' := Aside0.mk H
       clear H
       obtain ⟨ey, ez, dB⟩ := Kd.R_slice ak.out
       subst dB
       have p161 : 0 ≤ (0 : Int) := (by omega)
       have q161 : 0 < (aa.length : Int) := of_decide_eq_true (by first | (with_reducible assumption) | assumption)
       obtain ⟨ad161, e161, aq⟩ := Kd.at_string (Kd.R_reads' ak.out).2.2 0 p161 q161
       cases e161
       have qi161 : (0 < aa.length) = True := eq_true (by omega)
       (try rw [show ((0 : Int)).toNat = 0 from rfl] at aq)
       (try rw [Addr.add_zero'] at aq)
       replace p161 := eq_true p161
       replace q161 := eq_true q161
       go_wp2_with (first | (go_at_call 57; (with_reducible refine (number_May.calls (rdOf ByteArray.empty aa 0) false _ A12.out).mono ?_); rintro e w27 ⟨rfl, hb⟩; replace ak := am (rB ak.out hb); replace ac := am (bB ac.out hb); replace HB := am (sT HB.out hb); (try clear hb); (try clear hb2); (try clear hk); (try clear hi)))
       go_meet
       case rel => exact ⟨_, (true), (by first | rfl | (simp; done) | (simp [*]; done)), H', ⟨by first | omega | exact Nat.le_refl _⟩, ⟨rT ak.out⟩, ⟨bT ac.out⟩, ⟨eT HB.out⟩⟩
     ·rw [if_neg c11] at H
      exact absurd H (by simp)
    ·rw [if_neg c10] at H
     have aJ : ((aa.length : Int) == 3) = false := beq_eq_false_iff_ne.mpr c10
     have bc : ((aa.length : Int) != 3) = true := bne_iff_ne.mpr c10
     (first | rw [aJ] | (simp only [i64_w, i32_w]; rw [aJ]) | skip)
     have H' := Aside0.mk H
     clear H
     obtain ⟨eA, eB, dC⟩ := Kd.R_slice ak.out
     subst dC
     go_wp2
     go_meet
     case rel => exact ⟨_, (true), (by first | rfl | (simp; done) | (simp [*]; done)), H', ⟨by first | omega | exact Nat.le_refl _⟩, ⟨rT ak.out⟩, ⟨bT ac.out⟩, ⟨eT HB.out⟩⟩
   case rest =>
    clear HC7
    try clear c1
    try clear p1
    try clear q1
    try clear hx1
    try clear qi1
    try clear p2
    try clear c3
    try clear c4
    try clear bK
    try clear bQ
    try clear c5
    try clear c10
    try clear aJ
    try clear bc
    try clear c11
    try clear bE
    try clear bF
    try clear c13
    try clear c14
    try clear bG
    try clear bH
    try clear c16
    try clear p16
    try clear q16
    try clear dD
    try clear qi16
    try clear c17
    try clear bI
    try clear bJ
    try clear aq
    try clear aB
    try clear aI
    try clear p161
    try clear p163
    try clear p165
    try clear q161
    try clear q163
    try clear q165
    obtain ⟨kq, a4, rfl, HA, HJ6, ad, ac, HB⟩ := hcut
    cases kq with
    | zero => exact absurd HA.out (by simp [version_Split.j0])
    | succ kj6 =>
     have H := HA.out
     clear HA
     simp only [version_Split.j0] at H
     by_cases c29 : a4 = true
     ·subst c29
      have H1 : (some ((⟨#[]⟩ : ByteArray), (⟨#[]⟩ : ByteArray), (⟨#[]⟩ : ByteArray), ([] : List ByteArray), 1)) = some (r1, r2, r3, r4, r5) := by rw [if_pos rfl] at H; exact H
      clear H
      have H := H1
      clear H1
      simp only [Option.some.injEq, Prod.mk.injEq] at H
      obtain ⟨rfl, rfl, rfl, rfl, rfl⟩ := H
      have bi : wc.cell? ⟨ag, 0, none⟩ = some (.string (⟨#[]⟩ : ByteArray)) := cT ac 0
      have bj : wc.cell? ⟨ag, 1, none⟩ = some (.string (⟨#[]⟩ : ByteArray)) := cT ac 1
      have bk : wc.cell? ⟨ag, 2, none⟩ = some (.string (⟨#[]⟩ : ByteArray)) := cT ac 2
      have bl : wc.cell? ⟨ag, 3, none⟩ = some (.slice none 0 0) := cT ac 3
      have bm := blk_frozen ac.out 0
      have bo := blk_frozen ac.out 1
      have bp := blk_frozen ac.out 2
      have bq := blk_frozen ac.out 3
      go_wp2
      refine bodyPost_ret (results_ct rfl _ _ ag 71 #[.string (⟨#[]⟩ : ByteArray), .string (⟨#[]⟩ : ByteArray), .string (⟨#[]⟩ : ByteArray), .slice none 0 0] (0, 0) _ rfl (by (with_reducible repeat (first | apply bn | apply bd | apply ba)); refine blk_put (cs := #[.string (⟨#[]⟩ : ByteArray), .string (⟨#[]⟩ : ByteArray), .string (⟨#[]⟩ : ByteArray), .slice none 0 0]) ?_ 3 _ rfl; (with_reducible repeat (first | apply bn | apply bd | apply ba)); refine blk_put (cs := #[.string (⟨#[]⟩ : ByteArray), .string (⟨#[]⟩ : ByteArray), .string (⟨#[]⟩ : ByteArray), .slice none 0 0]) ?_ 2 _ rfl; (with_reducible repeat (first | apply bn | apply bd | apply ba)); refine blk_put (cs := #[.string (⟨#[]⟩ : ByteArray), .string (⟨#[]⟩ : ByteArray), .string (⟨#[]⟩ : ByteArray), .slice none 0 0]) ?_ 1 _ rfl; (with_reducible repeat (first | apply bn | apply bd | apply ba)); refine blk_put (cs := #[.string (⟨#[]⟩ : ByteArray), .string (⟨#[]⟩ : ByteArray), .string (⟨#[]⟩ : ByteArray), .slice none 0 0]) ?_ 0 _ rfl; exact bT ac.out) Tryd.underlying71 rfl (by kernel_rfl)) rfl ?_
      exact ⟨_, by first | rfl | (simp [errW_none, errW_some] <;> rfl) | (simp [*, errW_none, errW_some] <;> rfl), by first | exact Kd.R_nil _ _ _ _ _ | exact Kd.N_nil _ _ _ _ _ | exact Kd.V_nil _ _ _ _ _ | exact Kd.Q_nil _ _ _ _ _ | exact Kd.S_nil _ _ _ _ _, by repeat (first | (with_reducible first | exact HB.out | apply pA | apply pN | apply pD | refine eU ?_ (by assumption)) | exact HB.out)⟩
     ·replace c29 := Bool.eq_false_iff.mpr c29
      subst c29
      have H1 : (if 0 < (aa.length : Int) then (if 1 < (aa.length : Int) then (if 2 < (aa.length : Int) then (if az = true then ((octet_Parts.f aw 46).bind fun ai => (version_Split.l0 kj6 ai (ai.length : Int) 0 (rdOf ByteArray.empty aa 0) (rdOf ByteArray.empty aa 1) (rdOf ByteArray.empty aa 2) ai)) else (some (rdOf ByteArray.empty aa 0, rdOf ByteArray.empty aa 1, rdOf ByteArray.empty aa 2, ([] : List ByteArray), 0))) else (none)) else (none)) else (none)) = some (r1, r2, r3, r4, r5) := by rw [if_neg (show ¬ (false = true) by decide)] at H; exact H
      clear H
      have H := H1
      clear H1
      by_cases c31 : 0 < (aa.length : Int)
      ·rw [if_pos c31] at H
       have bX : decide (0 < (aa.length : Int)) = true := decide_eq_true c31
       have bZ : decide (0 < aa.length) = true := decide_eq_true (by omega)
       clear c31
       by_cases c32 : 1 < (aa.length : Int)
       ·rw [if_pos c32] at H
        have b0 : decide (1 < (aa.length : Int)) = true := decide_eq_true c32
        have b1 : decide (1 < aa.length) = true := decide_eq_true (by omega)
        clear c32
        by_cases c33 : 2 < (aa.length : Int)
        ·rw [if_pos c33] at H
         have b2 : decide (2 < (aa.length : Int)) = true := decide_eq_true c33
         have b3 : decide (2 < aa.length) = true := decide_eq_true (by omega)
         clear c33
         by_cases c34 : az = true
         ·subst c34
          have H1 : ((octet_Parts.f aw 46).bind fun ai => (version_Split.l0 kj6 ai (ai.length : Int) 0 (rdOf ByteArray.empty aa 0) (rdOf ByteArray.empty aa 1) (rdOf ByteArray.empty aa 2) ai)) = some (r1, r2, r3, r4, r5) := by rw [if_pos rfl] at H; exact H
          clear H
          have H := H1
          clear H1
          replace H := Option.bind_eq_some_iff.mp H
          obtain ⟨ai, b4, H⟩ := H
          replace H : (version_Split.l0 kj6 ai (ai.length : Int) 0 (rdOf ByteArray.empty aa 0) (rdOf ByteArray.empty aa 1) (rdOf ByteArray.empty aa 2) ai) = some (r1, r2, r3, r4, r5) := H
          have A35 := Aside0.mk b4
          clear b4
          have H' := Aside0.mk H
          clear H
          try go_wp2
          replace ad := am (Kd.R_drew ad.out)
          replace ac := am (blk_drew ac.out)
          replace HB := am (below_drew1 HB.out)
          obtain ⟨eC, eD, b5⟩ := Kd.R_slice ad.out
          (first | subst b5 | (injection b5 with f1_ f2_ f3_; have f4_ := f1_.symm; have f5_ := f3_.symm; clear f1_ f2_ f3_; subst f4_; subst f5_))
          have p167 : 0 ≤ (0 : Int) := (by omega)
          have q167 : 0 < (aa.length : Int) := of_decide_eq_true (by first | (with_reducible assumption) | assumption)
          obtain ⟨ad167, e167, ar⟩ := Kd.at_string (Kd.R_reads' ad.out).2.2 0 p167 q167
          cases e167
          have qi167 : (0 < aa.length) = True := eq_true (by omega)
          (try rw [show ((0 : Int)).toNat = 0 from rfl] at ar)
          (try rw [Addr.add_zero'] at ar)
          replace p167 := eq_true p167
          replace q167 := eq_true q167
          have p168 : 0 ≤ (1 : Int) := (by omega)
          have q168 : 1 < (aa.length : Int) := of_decide_eq_true (by first | (with_reducible assumption) | assumption)
          obtain ⟨ad168, e168, au⟩ := Kd.at_string (Kd.R_reads' ad.out).2.2 1 p168 q168
          obtain rfl : ad167 = ad168 := (by injection e168)
          (try simp only [show (1 : Int).toNat = 1 from rfl, Nat.reduceMul, Nat.reduceEqDiff, Go.Addr.add, ↓reduceIte] at au)
          have qi168 : (1 < aa.length) = True := eq_true (by omega)
          (try rw [show ((1 : Int)).toNat = 1 from rfl] at au)
          replace p168 := eq_true p168
          replace q168 := eq_true q168
          have p169 : 0 ≤ (2 : Int) := (by omega)
          have q169 : 2 < (aa.length : Int) := of_decide_eq_true (by first | (with_reducible assumption) | assumption)
          obtain ⟨ad169, e169, av⟩ := Kd.at_string (Kd.R_reads' ad.out).2.2 2 p169 q169
          obtain rfl : ad167 = ad169 := (by injection e169)
          (try simp only [show (2 : Int).toNat = 2 from rfl, Nat.reduceMul, Nat.reduceEqDiff, Go.Addr.add, ↓reduceIte] at av)
          have qi169 : (2 < aa.length) = True := eq_true (by omega)
          (try rw [show ((2 : Int)).toNat = 2 from rfl] at av)
          replace p169 := eq_true p169
          replace q169 := eq_true q169
          refine start_ (n := 12) (S := fun w' => w'.cell? ad167 = some (.string (rdOf ByteArray.empty aa 0)) ∧ w'.cell? ⟨ad167.block, ad167.off + 1, none⟩ = some (.string (rdOf ByteArray.empty aa 1)) ∧ w'.cell? ⟨ad167.block, ad167.off + 2, none⟩ = some (.string (rdOf ByteArray.empty aa 2))) (ds := []) (bA 12 0) (by kernel_rfl) rfl (by kernel_rfl) ⟨ar, au, av⟩ (fun hHeld => ?_); refine with_tabW version_Split.tab7 version_Split.bits7 (fun HT_ HW_ => ?_)
          generalize wc.drew = w36 at ad ac HB ar au av hHeld ⊢
          refine pT 0 49 (bA 12 1) HT_.out ?_
          refine pT 1 50 (bA 12 3) HT_.out ?_
          refine pT 3 52 (bA 12 11) HT_.out ?_
          refine pT 4 53 (bA 12 27) HT_.out ?_
          refine pT 6 55 (bA 12 91) HT_.out ?_
          refine pT 7 56 (bA 12 219) HT_.out ?_
          refine tT 2 51 (bA 12 223) HT_.out HW_.out hHeld ?_ (hy := by rintro w' ⟨s0, s1, s2⟩; go_simp; with_reducible rfl)
          refine tT 5 54 (bA 12 255) HT_.out HW_.out hHeld ?_ (hy := by rintro w' ⟨s0, s1, s2⟩; go_simp; with_reducible rfl)
          refine tT 8 57 (bA 12 511) HT_.out HW_.out hHeld ?_ (hy := by rintro w' ⟨s0, s1, s2⟩; go_simp; with_reducible rfl)
          refine pT 9 58 (bA 12 1023) HT_.out ?_
          refine oT 10 (bA 12 2047) HT_.out fun K hK => ?_
          refine box_step ?hg (N := 8) ?hd (cs := #[.string (⟨#[]⟩ : ByteArray), .string (⟨#[]⟩ : ByteArray), .string (⟨#[]⟩ : ByteArray), .slice none 0 0]) (t := 71) ?hr ?_; (case hd => rfl); (case hg => rfl); (case hr => first | (go_simp; done) | (go_simp; rfl))
          intro ae hg w38 hbox hb
          have HS0_ := (hb.cell (World.block_lt_of_cell? _ _ (hHeld.1))).trans (hHeld.1)
          have HS1_ := (hb.cell (World.block_lt_of_cell? _ _ (hHeld.2.1))).trans (hHeld.2.1)
          have HS2_ := (hb.cell (World.block_lt_of_cell? _ _ (hHeld.2.2))).trans (hHeld.2.2)
          replace ad := am (rB ad.out hb)
          have ab := am (hbox)
          have b6 := am ((gT hg HB.out))
          have b7 := am ((gT hg HB.out))
          have af := am ((nT ac.out hg))
          have ah := am ((mT ac.out hg))
          replace ac := am (bB ac.out hb)
          replace HB := am (sT HB.out hb)
          clear hb hbox hg
          refine hK.out _ _ ⟨HS0_, HS1_, HS2_⟩ (fun hHeld => ?_)
          clear hK K
          refine mN 8 ?_
          refine oT 11 (bA 12 4095) HT_.out fun K hK => ?_
          have eE : w38.cell? ⟨ae, 0, none⟩ = some (.string (⟨#[]⟩ : ByteArray)) := cT ab 0
          have d5 := blk_frozen ab.out 0
          have cd := af.out
          have ce := ah.out
          have eF : w38.cell? ⟨ae, 1, none⟩ = some (.string (⟨#[]⟩ : ByteArray)) := cT ab 1
          have d6 := blk_frozen ab.out 1
          have cf := af.out
          have cg := ah.out
          have eG : w38.cell? ⟨ae, 2, none⟩ = some (.string (⟨#[]⟩ : ByteArray)) := cT ab 2
          have d7 := blk_frozen ab.out 2
          have ch := af.out
          have ci := ah.out
          have eH : w38.cell? ⟨ae, 3, none⟩ = some (.slice none 0 0) := cT ab 3
          have d8 := blk_frozen ab.out 3
          have cj := af.out
          have ck := ah.out
          refine skip_ (w1 := ?_) (by rfl) rfl ?_ ?_
          rotate_left
          ·go_simp
           rfl
          refine hK.out _ _ ⟨((cell_far (p := ⟨ae, _, none⟩) (by first | exact Kd.own_blk (Kd.R_ne ad.out ab.out (by decide)) | (rw [add_block]; exact Kd.own_blk (Kd.R_ne ad.out ab.out (by decide))) | (show (Addr.add _ _).block ≠ _; rw [add_block]; exact Kd.own_blk (Kd.R_ne ad.out ab.out (by decide))) | (dsimp only; exact Kd.own_blk (Kd.R_ne ad.out ab.out (by decide)))) _).trans (((cell_far (p := ⟨ae, _, none⟩) (by first | exact Kd.own_blk (Kd.R_ne ad.out ab.out (by decide)) | (rw [add_block]; exact Kd.own_blk (Kd.R_ne ad.out ab.out (by decide))) | (show (Addr.add _ _).block ≠ _; rw [add_block]; exact Kd.own_blk (Kd.R_ne ad.out ab.out (by decide))) | (dsimp only; exact Kd.own_blk (Kd.R_ne ad.out ab.out (by decide)))) _).trans (((cell_far (p := ⟨ae, _, none⟩) (by first | exact Kd.own_blk (Kd.R_ne ad.out ab.out (by decide)) | (rw [add_block]; exact Kd.own_blk (Kd.R_ne ad.out ab.out (by decide))) | (show (Addr.add _ _).block ≠ _; rw [add_block]; exact Kd.own_blk (Kd.R_ne ad.out ab.out (by decide))) | (dsimp only; exact Kd.own_blk (Kd.R_ne ad.out ab.out (by decide)))) _).trans (((cell_far (p := ⟨ae, _, none⟩) (by first | exact Kd.own_blk (Kd.R_ne ad.out ab.out (by decide)) | (rw [add_block]; exact Kd.own_blk (Kd.R_ne ad.out ab.out (by decide))) | (show (Addr.add _ _).block ≠ _; rw [add_block]; exact Kd.own_blk (Kd.R_ne ad.out ab.out (by decide))) | (dsimp only; exact Kd.own_blk (Kd.R_ne ad.out ab.out (by decide)))) _).trans (hHeld.1)))))))), ((cell_far (p := ⟨ae, _, none⟩) (by first | exact Kd.own_blk (Kd.R_ne ad.out ab.out (by decide)) | (rw [add_block]; exact Kd.own_blk (Kd.R_ne ad.out ab.out (by decide))) | (show (Addr.add _ _).block ≠ _; rw [add_block]; exact Kd.own_blk (Kd.R_ne ad.out ab.out (by decide))) | (dsimp only; exact Kd.own_blk (Kd.R_ne ad.out ab.out (by decide)))) _).trans (((cell_far (p := ⟨ae, _, none⟩) (by first | exact Kd.own_blk (Kd.R_ne ad.out ab.out (by decide)) | (rw [add_block]; exact Kd.own_blk (Kd.R_ne ad.out ab.out (by decide))) | (show (Addr.add _ _).block ≠ _; rw [add_block]; exact Kd.own_blk (Kd.R_ne ad.out ab.out (by decide))) | (dsimp only; exact Kd.own_blk (Kd.R_ne ad.out ab.out (by decide)))) _).trans (((cell_far (p := ⟨ae, _, none⟩) (by first | exact Kd.own_blk (Kd.R_ne ad.out ab.out (by decide)) | (rw [add_block]; exact Kd.own_blk (Kd.R_ne ad.out ab.out (by decide))) | (show (Addr.add _ _).block ≠ _; rw [add_block]; exact Kd.own_blk (Kd.R_ne ad.out ab.out (by decide))) | (dsimp only; exact Kd.own_blk (Kd.R_ne ad.out ab.out (by decide)))) _).trans (((cell_far (p := ⟨ae, _, none⟩) (by first | exact Kd.own_blk (Kd.R_ne ad.out ab.out (by decide)) | (rw [add_block]; exact Kd.own_blk (Kd.R_ne ad.out ab.out (by decide))) | (show (Addr.add _ _).block ≠ _; rw [add_block]; exact Kd.own_blk (Kd.R_ne ad.out ab.out (by decide))) | (dsimp only; exact Kd.own_blk (Kd.R_ne ad.out ab.out (by decide)))) _).trans (hHeld.2.1)))))))), ((cell_far (p := ⟨ae, _, none⟩) (by first | exact Kd.own_blk (Kd.R_ne ad.out ab.out (by decide)) | (rw [add_block]; exact Kd.own_blk (Kd.R_ne ad.out ab.out (by decide))) | (show (Addr.add _ _).block ≠ _; rw [add_block]; exact Kd.own_blk (Kd.R_ne ad.out ab.out (by decide))) | (dsimp only; exact Kd.own_blk (Kd.R_ne ad.out ab.out (by decide)))) _).trans (((cell_far (p := ⟨ae, _, none⟩) (by first | exact Kd.own_blk (Kd.R_ne ad.out ab.out (by decide)) | (rw [add_block]; exact Kd.own_blk (Kd.R_ne ad.out ab.out (by decide))) | (show (Addr.add _ _).block ≠ _; rw [add_block]; exact Kd.own_blk (Kd.R_ne ad.out ab.out (by decide))) | (dsimp only; exact Kd.own_blk (Kd.R_ne ad.out ab.out (by decide)))) _).trans (((cell_far (p := ⟨ae, _, none⟩) (by first | exact Kd.own_blk (Kd.R_ne ad.out ab.out (by decide)) | (rw [add_block]; exact Kd.own_blk (Kd.R_ne ad.out ab.out (by decide))) | (show (Addr.add _ _).block ≠ _; rw [add_block]; exact Kd.own_blk (Kd.R_ne ad.out ab.out (by decide))) | (dsimp only; exact Kd.own_blk (Kd.R_ne ad.out ab.out (by decide)))) _).trans (((cell_far (p := ⟨ae, _, none⟩) (by first | exact Kd.own_blk (Kd.R_ne ad.out ab.out (by decide)) | (rw [add_block]; exact Kd.own_blk (Kd.R_ne ad.out ab.out (by decide))) | (show (Addr.add _ _).block ≠ _; rw [add_block]; exact Kd.own_blk (Kd.R_ne ad.out ab.out (by decide))) | (dsimp only; exact Kd.own_blk (Kd.R_ne ad.out ab.out (by decide)))) _).trans (hHeld.2.2))))))))⟩ (fun hHeld => ?_)
          clear hK K
          refine done_ (done_of HT_.out (by kernel_rfl)) ?_
          try go_wp2_with (first | ((with_reducible refine gate_callee (f := 53) rfl ?_); refine gL (some 63) Tryd.func53 #[.string aw, .int .u8 46] ?_; (with_reducible refine (octet_Parts.calls aw 46 ai _ A35.out).mono ?_); rintro e w43 ⟨eI, rfl, ho0, hb⟩; refine ⟨_, rfl, ?_⟩; have be := am (Kd.R_lower (Kd.R_new' ho0 (Kd.R_lt (by (with_reducible repeat (first | apply Kd.R_alloc | apply Kd.R_drewN | apply Kd.R_drew)); exact (Kd.R_mono (Kd.R_far (p := ⟨ae, 3, none⟩) (Kd.R_far (p := ⟨ae, 2, none⟩) (Kd.R_far (p := ⟨ae, 1, none⟩) (Kd.R_far (p := ⟨ae, 0, none⟩) (Kd.R_types ad.out ab.out (by decide)) (fun _ hk => hk.2) (.string (rdOf ByteArray.empty aa 0))) (fun _ hk => hk.2) (.string (rdOf ByteArray.empty aa 1))) (fun _ hk => hk.2) (.string (rdOf ByteArray.empty aa 2))) (fun _ hk => hk.2) (.slice none 0 0)) (fun _ h_ => h_.1))))) (below_size (by repeat (first | (with_reducible first | exact HB.out | apply pA | apply pN | apply pD | refine eU ?_ (by assumption)) | exact HB.out)))); replace ac := am (blk_below (g := ag) (o := .cells #[.string (⟨#[]⟩ : ByteArray), .string (⟨#[]⟩ : ByteArray), .string (⟨#[]⟩ : ByteArray), .slice none 0 0] 71 (0, 0)) (by (with_reducible repeat (first | apply bn | apply bd | apply ba)); refine blk_far ?_ af.out _; (with_reducible repeat (first | apply bn | apply bd | apply ba)); refine blk_far ?_ af.out _; (with_reducible repeat (first | apply bn | apply bd | apply ba)); refine blk_far ?_ af.out _; (with_reducible repeat (first | apply bn | apply bd | apply ba)); refine blk_far ?_ af.out _; exact bT ac.out) hb); replace ad := am (Kd.R_elder' (by (with_reducible repeat (first | apply Kd.R_alloc | apply Kd.R_drewN | apply Kd.R_drew)); exact (Kd.R_mono (Kd.R_far (p := ⟨ae, 3, none⟩) (Kd.R_far (p := ⟨ae, 2, none⟩) (Kd.R_far (p := ⟨ae, 1, none⟩) (Kd.R_far (p := ⟨ae, 0, none⟩) (Kd.R_types ad.out ab.out (by decide)) (fun _ hk => hk.2) (.string (rdOf ByteArray.empty aa 0))) (fun _ hk => hk.2) (.string (rdOf ByteArray.empty aa 1))) (fun _ hk => hk.2) (.string (rdOf ByteArray.empty aa 2))) (fun _ hk => hk.2) (.slice none 0 0)) (fun _ h_ => h_.1))) (Kd.R_base ho0) hb); replace HB := am (below_step (by repeat (first | (with_reducible first | exact HB.out | apply pA | apply pN | apply pD | refine eU ?_ (by assumption)) | exact HB.out)) hb); replace ab := am (blk_below (g := ae) (o := .cells #[.string (rdOf ByteArray.empty aa 0), .string (rdOf ByteArray.empty aa 1), .string (rdOf ByteArray.empty aa 2), .slice none 0 0] 71 (0, 0)) (by (with_reducible repeat (first | apply bn | apply bd | apply ba)); refine blk_put (cs := #[.string (rdOf ByteArray.empty aa 0), .string (rdOf ByteArray.empty aa 1), .string (rdOf ByteArray.empty aa 2), .slice none 0 0]) ?_ 3 _ rfl; (with_reducible repeat (first | apply bn | apply bd | apply ba)); refine blk_put (cs := #[.string (rdOf ByteArray.empty aa 0), .string (rdOf ByteArray.empty aa 1), .string (⟨#[]⟩ : ByteArray), .slice none 0 0]) ?_ 2 _ rfl; (with_reducible repeat (first | apply bn | apply bd | apply ba)); refine blk_put (cs := #[.string (rdOf ByteArray.empty aa 0), .string (⟨#[]⟩ : ByteArray), .string (⟨#[]⟩ : ByteArray), .slice none 0 0]) ?_ 1 _ rfl; (with_reducible repeat (first | apply bn | apply bd | apply ba)); refine blk_put (cs := #[.string (⟨#[]⟩ : ByteArray), .string (⟨#[]⟩ : ByteArray), .string (⟨#[]⟩ : ByteArray), .slice none 0 0]) ?_ 0 _ rfl; exact bT ab.out) hb); (try clear hb); (try clear hb2); (try clear hk); (try clear hi); (try clear ho0); obtain ⟨aR, aU, dE⟩ := Kd.R_slice be.out; subst dE; have d9 := ah.out; have d_ := af.out; have br : w43.cell? ⟨ae, 0, none⟩ = some (.string (rdOf ByteArray.empty aa 0)) := cT ab 0; have bs : w43.cell? ⟨ae, 1, none⟩ = some (.string (rdOf ByteArray.empty aa 1)) := cT ab 1; have bt : w43.cell? ⟨ae, 2, none⟩ = some (.string (rdOf ByteArray.empty aa 2)) := cT ab 2; have bu : w43.cell? ⟨ae, 3, none⟩ = some (.slice none 0 0) := cT ab 3; have bv := blk_frozen ab.out 0; have bw := blk_frozen ab.out 1; have bx := blk_frozen ab.out 2; have bz := blk_frozen ab.out 3))
          go_loopg [68] kj6 (fun kq v68 w' => ∃ (al : Int) (ap : ByteArray) (an : ByteArray) (aj : ByteArray), v68 = .int .i64 al ∧ Aside0 (version_Split.l0 kq ai (ai.length : Int) al (rdOf ByteArray.empty aa 0) (rdOf ByteArray.empty aa 1) (rdOf ByteArray.empty aa 2) ai = some (r1, r2, r3, r4, r5)) ∧ Aside0 (kq ≤ kj6) ∧ Aside0 (Kd.R Kd.string 9 w' w.heap.size (fun _ => True) (.slice aR ai.length aU) ai) ∧ Aside0 (Kd.R Kd.string 9 w' w.heap.size (fun _ => True) (.slice aR ai.length aU) ai) ∧ Aside0 (w'.heap[ag]? = some (.cells #[.string ap, .string an, .string aj, (.slice none 0 0)] 71 (0, 0))) ∧ Aside0 (w'.heap[ae]? = some (.cells #[.string (rdOf ByteArray.empty aa 0), .string (rdOf ByteArray.empty aa 1), .string (rdOf ByteArray.empty aa 2), (.slice aR ai.length aU)] 71 (0, 0))) ∧ Aside0 (Below w.heap.size w w'))
          case atStart => exact ⟨(0), ((⟨#[]⟩ : ByteArray)), ((⟨#[]⟩ : ByteArray)), ((⟨#[]⟩ : ByteArray)), (by first | rfl | (simp; done) | (simp [*]; done)), H', ⟨Nat.le_refl _⟩, ⟨by (with_reducible repeat (first | apply Kd.R_alloc | apply Kd.R_drewN | apply Kd.R_drew)); exact Kd.R_mono (Kd.R_far (p := ⟨ae, 3, none⟩) (Kd.R_types be.out ab.out (by decide)) (fun _ hk => hk.2) (.slice aR ai.length aU)) (fun _ hk => trivial)⟩, ⟨by (with_reducible repeat (first | apply Kd.R_alloc | apply Kd.R_drewN | apply Kd.R_drew)); exact Kd.R_mono (Kd.R_far (p := ⟨ae, 3, none⟩) (Kd.R_types be.out ab.out (by decide)) (fun _ hk => hk.2) (.slice aR ai.length aU)) (fun _ hk => trivial)⟩, ⟨by (with_reducible repeat (first | apply bn | apply bd | apply ba)); refine blk_far ?_ af.out _; exact bT ac.out⟩, ⟨by (with_reducible repeat (first | apply bn | apply bd | apply ba)); refine blk_put (cs := #[.string (rdOf ByteArray.empty aa 0), .string (rdOf ByteArray.empty aa 1), .string (rdOf ByteArray.empty aa 2), .slice none 0 0]) ?_ 3 _ rfl; exact bT ab.out⟩, ⟨by repeat (first | (with_reducible first | exact HB.out | apply pA | apply pN | apply pD | refine eU ?_ (by assumption)) | exact HB.out)⟩⟩
          case round =>
           clear H'
           try clear c1
           try clear p1
           try clear q1
           try clear hx1
           try clear qi1
           try clear c2
           try clear p2
           try clear c3
           try clear c4
           try clear bK
           try clear bQ
           try clear c5
           try clear c10
           try clear aJ
           try clear bc
           try clear c11
           try clear bE
           try clear bF
           try clear c13
           try clear c14
           try clear bG
           try clear bH
           try clear c16
           try clear p16
           try clear q16
           try clear dD
           try clear qi16
           try clear c17
           try clear bI
           try clear bJ
           try clear c29
           try clear c31
           try clear bX
           try clear bZ
           try clear c32
           try clear b0
           try clear b1
           try clear c33
           try clear b2
           try clear b3
           try clear c34
           try clear c45
           try clear c46
           try clear bi
           try clear bj
           try clear bk
           try clear bl
           try clear br
           try clear bs
           try clear bt
           try clear bu
           try clear bm
           try clear bo
           try clear bp
           try clear bq
           try clear bv
           try clear bw
           try clear bx
           try clear bz
           try clear aq
           try clear aB
           try clear aI
           try clear ar
           try clear au
           try clear av
           try clear p1
           try clear p16
           try clear p161
           try clear p163
           try clear p165
           try clear p167
           try clear p168
           try clear p169
           try clear p2
           try clear q1
           try clear q16
           try clear q161
           try clear q163
           try clear q165
           try clear q167
           try clear q168
           try clear q169
           obtain ⟨al, ap, an, aj, rfl, HA, HK2, aK, ax, ac, ab, HB⟩ := hrel
           cases gk with
           | zero => exact absurd HA.out (by simp [version_Split.l0])
           | succ k2 =>
            have H := HA.out
            clear HA
            simp only [version_Split.l0] at H
            by_cases c47 : al < (ai.length : Int)
            ·rw [if_pos c47] at H
             have b8 : decide (al < (ai.length : Int)) = true := decide_eq_true c47
             clear c47
             by_cases c48 : 0 ≤ al
             ·rw [if_pos c48] at H
              have ea : decide (0 ≤ al) = true := decide_eq_true c48
              clear c48
              by_cases c49 : al < (ai.length : Int)
              ·rw [if_pos c49] at H
               have eb : decide (al < (ai.length : Int)) = true := decide_eq_true c49
               clear c49
               replace H := Option.bind_eq_some_iff.mp H
               obtain ⟨bg, b9, H⟩ := H
               replace H : (if bg = true then (version_Split.l0 k2 ai (ai.length : Int) (wrap64 (al + 1)) (rdOf ByteArray.empty aa 0) (rdOf ByteArray.empty aa 1) (rdOf ByteArray.empty aa 2) ai) else (some ((⟨#[]⟩ : ByteArray), (⟨#[]⟩ : ByteArray), (⟨#[]⟩ : ByteArray), ([] : List ByteArray), 1))) = some (r1, r2, r3, r4, r5) := H
               have A50 := Aside0.mk b9
               clear b9
               by_cases c51 : bg = true
               ·subst c51
                have H1 : (version_Split.l0 k2 ai (ai.length : Int) (wrap64 (al + 1)) (rdOf ByteArray.empty aa 0) (rdOf ByteArray.empty aa 1) (rdOf ByteArray.empty aa 2) ai) = some (r1, r2, r3, r4, r5) := by rw [if_pos rfl] at H; exact H
                clear H
                have H := H1
                clear H1
                have H' := Aside0.mk H
                clear H
                have p174 : 0 ≤ (al : Int) := of_decide_eq_true (by first | (with_reducible assumption) | assumption)
                have q174 : al < (ai.length : Int) := of_decide_eq_true (by first | (with_reducible assumption) | assumption)
                obtain ⟨ad174, e174, bC⟩ := Kd.at_string (Kd.R_reads' aK.out).2.2 al p174 q174
                cases e174
                replace p174 := eq_true p174
                replace q174 := eq_true q174
                go_wp2_with (first | ((with_reducible refine gate_callee (f := 58) rfl ?_); refine gL (some 73) Tryd.func58 #[.string (rdOf ByteArray.empty ai al)] ?_; (with_reducible refine (version_word.calls k2 (rdOf ByteArray.empty ai al) true _ A50.out).mono ?_); rintro e w52 ⟨rfl, hb⟩; refine ⟨_, rfl, ?_⟩; replace aK := am (rB aK.out hb); replace ax := am (rB ax.out hb); replace ac := am (bB ac.out hb); replace ab := am (bB ab.out hb); replace HB := am (sT HB.out hb); (try clear hb); (try clear hb2); (try clear hk); (try clear hi)))
                go_roundg k2
                case measure => have := HJ6.out; have := HK2.out; omega
                case rel => exact ⟨(wrap64 (al + 1)), (ap), (an), (aj), (by first | rfl | (simp; done) | (simp [*]; done)), H', ⟨by have := HJ6.out; have := HK2.out; omega⟩, ⟨rT aK.out⟩, ⟨rT ax.out⟩, ⟨bT ac.out⟩, ⟨bT ab.out⟩, ⟨eT HB.out⟩⟩
               ·replace c51 := Bool.eq_false_iff.mpr c51
                subst c51
                have H1 : (some ((⟨#[]⟩ : ByteArray), (⟨#[]⟩ : ByteArray), (⟨#[]⟩ : ByteArray), ([] : List ByteArray), 1)) = some (r1, r2, r3, r4, r5) := by rw [if_neg (show ¬ (false = true) by decide)] at H; exact H
                clear H
                have H := H1
                clear H1
                simp only [Option.some.injEq, Prod.mk.injEq] at H
                obtain ⟨rfl, rfl, rfl, rfl, rfl⟩ := H
                have p174 : 0 ≤ (al : Int) := of_decide_eq_true (by first | (with_reducible assumption) | assumption)
                have q174 : al < (ai.length : Int) := of_decide_eq_true (by first | (with_reducible assumption) | assumption)
                obtain ⟨ad174, e174, bC⟩ := Kd.at_string (Kd.R_reads' aK.out).2.2 al p174 q174
                cases e174
                replace p174 := eq_true p174
                replace q174 := eq_true q174
                go_wp2_with (first | ((with_reducible refine gate_callee (f := 58) rfl ?_); refine gL (some 73) Tryd.func58 #[.string (rdOf ByteArray.empty ai al)] ?_; (with_reducible refine (version_word.calls k2 (rdOf ByteArray.empty ai al) false _ A50.out).mono ?_); rintro e w53 ⟨rfl, hb⟩; refine ⟨_, rfl, ?_⟩; replace aK := am (rB aK.out hb); replace ax := am (rB ax.out hb); replace ac := am (bB ac.out hb); replace ab := am (bB ab.out hb); replace HB := am (sT HB.out hb); (try clear hb); (try clear hb2); (try clear hk); (try clear hi); have ec := af.out; have ed := ah.out; have cl : w53.cell? ⟨ag, 0, none⟩ = some (.string ap) := cT ac 0; have cm : w53.cell? ⟨ag, 1, none⟩ = some (.string an) := cT ac 1; have cn : w53.cell? ⟨ag, 2, none⟩ = some (.string aj) := cT ac 2; have co : w53.cell? ⟨ag, 3, none⟩ = some (.slice none 0 0) := cT ac 3; have cp := blk_frozen ac.out 0; have cq := blk_frozen ac.out 1; have cr := blk_frozen ac.out 2; have ct := blk_frozen ac.out 3))
                refine bodyPost_ret (results_ct rfl _ _ ag 71 #[.string (⟨#[]⟩ : ByteArray), .string (⟨#[]⟩ : ByteArray), .string (⟨#[]⟩ : ByteArray), .slice none 0 0] (0, 0) _ rfl (by (with_reducible repeat (first | apply bn | apply bd | apply ba)); refine blk_put (cs := #[.string (⟨#[]⟩ : ByteArray), .string (⟨#[]⟩ : ByteArray), .string (⟨#[]⟩ : ByteArray), .slice none 0 0]) ?_ 3 _ rfl; (with_reducible repeat (first | apply bn | apply bd | apply ba)); refine blk_put (cs := #[.string (⟨#[]⟩ : ByteArray), .string (⟨#[]⟩ : ByteArray), .string aj, .slice none 0 0]) ?_ 2 _ rfl; (with_reducible repeat (first | apply bn | apply bd | apply ba)); refine blk_put (cs := #[.string (⟨#[]⟩ : ByteArray), .string an, .string aj, .slice none 0 0]) ?_ 1 _ rfl; (with_reducible repeat (first | apply bn | apply bd | apply ba)); refine blk_put (cs := #[.string ap, .string an, .string aj, .slice none 0 0]) ?_ 0 _ rfl; exact bT ac.out) Tryd.underlying71 rfl (by kernel_rfl)) rfl ?_
                exact ⟨_, by first | rfl | (simp [errW_none, errW_some] <;> rfl) | (simp [*, errW_none, errW_some] <;> rfl), by first | exact Kd.R_nil _ _ _ _ _ | exact Kd.N_nil _ _ _ _ _ | exact Kd.V_nil _ _ _ _ _ | exact Kd.Q_nil _ _ _ _ _ | exact Kd.S_nil _ _ _ _ _, by repeat (first | (with_reducible first | exact HB.out | apply pA | apply pN | apply pD | refine eU ?_ (by assumption)) | exact HB.out)⟩
              ·rw [if_neg c49] at H
               exact absurd H (by simp)
             ·rw [if_neg c48] at H
              exact absurd H (by simp)
            ·rw [if_neg c47] at H
             have b8 : decide (al < (ai.length : Int)) = false := decide_eq_false c47
             clear c47
             simp only [Option.some.injEq, Prod.mk.injEq] at H
             obtain ⟨rfl, rfl, rfl, rfl, rfl⟩ := H
             have ee := ah.out
             have ef := af.out
             have cu : wr.cell? ⟨ae, 0, none⟩ = some (.string (rdOf ByteArray.empty aa 0)) := cT ab 0
             have cv : wr.cell? ⟨ae, 1, none⟩ = some (.string (rdOf ByteArray.empty aa 1)) := cT ab 1
             have cw : wr.cell? ⟨ae, 2, none⟩ = some (.string (rdOf ByteArray.empty aa 2)) := cT ab 2
             have cx : wr.cell? ⟨ae, 3, none⟩ = some (.slice aR ai.length aU) := cT ab 3
             have cy := blk_frozen ab.out 0
             have cz := blk_frozen ab.out 1
             have cA := blk_frozen ab.out 2
             have cB := blk_frozen ab.out 3
             have cC : wr.cell? ⟨ag, 0, none⟩ = some (.string ap) := cT ac 0
             have cD : wr.cell? ⟨ag, 1, none⟩ = some (.string an) := cT ac 1
             have cE : wr.cell? ⟨ag, 2, none⟩ = some (.string aj) := cT ac 2
             have cF : wr.cell? ⟨ag, 3, none⟩ = some (.slice none 0 0) := cT ac 3
             have cG := blk_frozen ac.out 0
             have cH := blk_frozen ac.out 1
             have cI := blk_frozen ac.out 2
             have cJ := blk_frozen ac.out 3
             go_wp2
             refine bodyPost_ret (results_ct rfl _ _ ag 71 #[.string (rdOf ByteArray.empty aa 0), .string (rdOf ByteArray.empty aa 1), .string (rdOf ByteArray.empty aa 2), .slice aR ai.length aU] (0, 0) _ rfl (by (with_reducible repeat (first | apply bn | apply bd | apply ba)); refine blk_put (cs := #[.string (rdOf ByteArray.empty aa 0), .string (rdOf ByteArray.empty aa 1), .string (rdOf ByteArray.empty aa 2), .slice none 0 0]) ?_ 3 _ rfl; (with_reducible repeat (first | apply bn | apply bd | apply ba)); refine blk_put (cs := #[.string (rdOf ByteArray.empty aa 0), .string (rdOf ByteArray.empty aa 1), .string aj, .slice none 0 0]) ?_ 2 _ rfl; (with_reducible repeat (first | apply bn | apply bd | apply ba)); refine blk_put (cs := #[.string (rdOf ByteArray.empty aa 0), .string an, .string aj, .slice none 0 0]) ?_ 1 _ rfl; (with_reducible repeat (first | apply bn | apply bd | apply ba)); refine blk_put (cs := #[.string ap, .string an, .string aj, .slice none 0 0]) ?_ 0 _ rfl; exact bT ac.out) Tryd.underlying71 rfl (by kernel_rfl)) rfl ?_
             exact ⟨_, by first | rfl | (simp [errW_none, errW_some] <;> rfl) | (simp [*, errW_none, errW_some] <;> rfl), by (with_reducible repeat (first | apply Kd.R_alloc | apply Kd.R_drewN | apply Kd.R_drew)); exact Kd.R_mono (Kd.R_far (p := ⟨ag, 3, none⟩) (Kd.R_far (p := ⟨ag, 2, none⟩) (Kd.R_far (p := ⟨ag, 1, none⟩) (Kd.R_far (p := ⟨ag, 0, none⟩) (Kd.R_types ax.out ac.out (by decide)) (fun _ hk => hk.2) (.string (rdOf ByteArray.empty aa 0))) (fun _ hk => hk.2) (.string (rdOf ByteArray.empty aa 1))) (fun _ hk => hk.2) (.string (rdOf ByteArray.empty aa 2))) (fun _ hk => hk.2) (.slice aR ai.length aU)) (fun _ hk => trivial), by repeat (first | (with_reducible first | exact HB.out | apply pA | apply pN | apply pD | refine eU ?_ (by assumption)) | exact HB.out)⟩
         ·replace c34 := Bool.eq_false_iff.mpr c34
          subst c34
          have H1 : (some (rdOf ByteArray.empty aa 0, rdOf ByteArray.empty aa 1, rdOf ByteArray.empty aa 2, ([] : List ByteArray), 0)) = some (r1, r2, r3, r4, r5) := by rw [if_neg (show ¬ (false = true) by decide)] at H; exact H
          clear H
          have H := H1
          clear H1
          simp only [Option.some.injEq, Prod.mk.injEq] at H
          obtain ⟨rfl, rfl, rfl, rfl, rfl⟩ := H
          try go_wp2
          replace ad := am (Kd.R_drew ad.out)
          replace ac := am (blk_drew ac.out)
          replace HB := am (below_drew1 HB.out)
          obtain ⟨eJ, eK, b_⟩ := Kd.R_slice ad.out
          (first | subst b_ | (injection b_ with f1_ f2_ f3_; have f4_ := f1_.symm; have f5_ := f3_.symm; clear f1_ f2_ f3_; subst f4_; subst f5_))
          have p167 : 0 ≤ (0 : Int) := (by omega)
          have q167 : 0 < (aa.length : Int) := of_decide_eq_true (by first | (with_reducible assumption) | assumption)
          obtain ⟨ad167, e167, ar⟩ := Kd.at_string (Kd.R_reads' ad.out).2.2 0 p167 q167
          cases e167
          have qi167 : (0 < aa.length) = True := eq_true (by omega)
          (try rw [show ((0 : Int)).toNat = 0 from rfl] at ar)
          (try rw [Addr.add_zero'] at ar)
          replace p167 := eq_true p167
          replace q167 := eq_true q167
          have p168 : 0 ≤ (1 : Int) := (by omega)
          have q168 : 1 < (aa.length : Int) := of_decide_eq_true (by first | (with_reducible assumption) | assumption)
          obtain ⟨ad168, e168, au⟩ := Kd.at_string (Kd.R_reads' ad.out).2.2 1 p168 q168
          obtain rfl : ad167 = ad168 := (by injection e168)
          (try simp only [show (1 : Int).toNat = 1 from rfl, Nat.reduceMul, Nat.reduceEqDiff, Go.Addr.add, ↓reduceIte] at au)
          have qi168 : (1 < aa.length) = True := eq_true (by omega)
          (try rw [show ((1 : Int)).toNat = 1 from rfl] at au)
          replace p168 := eq_true p168
          replace q168 := eq_true q168
          have p169 : 0 ≤ (2 : Int) := (by omega)
          have q169 : 2 < (aa.length : Int) := of_decide_eq_true (by first | (with_reducible assumption) | assumption)
          obtain ⟨ad169, e169, av⟩ := Kd.at_string (Kd.R_reads' ad.out).2.2 2 p169 q169
          obtain rfl : ad167 = ad169 := (by injection e169)
          (try simp only [show (2 : Int).toNat = 2 from rfl, Nat.reduceMul, Nat.reduceEqDiff, Go.Addr.add, ↓reduceIte] at av)
          have qi169 : (2 < aa.length) = True := eq_true (by omega)
          (try rw [show ((2 : Int)).toNat = 2 from rfl] at av)
          replace p169 := eq_true p169
          replace q169 := eq_true q169
          refine start_ (n := 12) (S := fun w' => w'.cell? ad167 = some (.string (rdOf ByteArray.empty aa 0)) ∧ w'.cell? ⟨ad167.block, ad167.off + 1, none⟩ = some (.string (rdOf ByteArray.empty aa 1)) ∧ w'.cell? ⟨ad167.block, ad167.off + 2, none⟩ = some (.string (rdOf ByteArray.empty aa 2))) (ds := []) (bA 12 0) (by kernel_rfl) rfl (by kernel_rfl) ⟨ar, au, av⟩ (fun hHeld => ?_); refine with_tabW version_Split.tab7 version_Split.bits7 (fun HT_ HW_ => ?_)
          generalize wc.drew = w59 at ad ac HB ar au av hHeld ⊢
          refine pT 0 49 (bA 12 1) HT_.out ?_
          refine pT 1 50 (bA 12 3) HT_.out ?_
          refine pT 3 52 (bA 12 11) HT_.out ?_
          refine pT 4 53 (bA 12 27) HT_.out ?_
          refine pT 6 55 (bA 12 91) HT_.out ?_
          refine pT 7 56 (bA 12 219) HT_.out ?_
          refine tT 2 51 (bA 12 223) HT_.out HW_.out hHeld ?_ (hy := by rintro w' ⟨s0, s1, s2⟩; go_simp; with_reducible rfl)
          refine tT 5 54 (bA 12 255) HT_.out HW_.out hHeld ?_ (hy := by rintro w' ⟨s0, s1, s2⟩; go_simp; with_reducible rfl)
          refine tT 8 57 (bA 12 511) HT_.out HW_.out hHeld ?_ (hy := by rintro w' ⟨s0, s1, s2⟩; go_simp; with_reducible rfl)
          refine pT 9 58 (bA 12 1023) HT_.out ?_
          refine oT 10 (bA 12 2047) HT_.out fun K hK => ?_
          refine box_step ?hg (N := 8) ?hd (cs := #[.string (⟨#[]⟩ : ByteArray), .string (⟨#[]⟩ : ByteArray), .string (⟨#[]⟩ : ByteArray), .slice none 0 0]) (t := 71) ?hr ?_; (case hd => rfl); (case hg => rfl); (case hr => first | (go_simp; done) | (go_simp; rfl))
          intro ae hg w61 hbox hb
          have HS0_ := (hb.cell (World.block_lt_of_cell? _ _ (hHeld.1))).trans (hHeld.1)
          have HS1_ := (hb.cell (World.block_lt_of_cell? _ _ (hHeld.2.1))).trans (hHeld.2.1)
          have HS2_ := (hb.cell (World.block_lt_of_cell? _ _ (hHeld.2.2))).trans (hHeld.2.2)
          replace ad := am (rB ad.out hb)
          have ab := am (hbox)
          have b6 := am ((gT hg HB.out))
          have b7 := am ((gT hg HB.out))
          have af := am ((nT ac.out hg))
          have ah := am ((mT ac.out hg))
          replace ac := am (bB ac.out hb)
          replace HB := am (sT HB.out hb)
          clear hb hbox hg
          refine hK.out _ _ ⟨HS0_, HS1_, HS2_⟩ (fun hHeld => ?_)
          clear hK K
          refine mN 8 ?_
          refine oT 11 (bA 12 4095) HT_.out fun K hK => ?_
          have eL : w61.cell? ⟨ae, 0, none⟩ = some (.string (⟨#[]⟩ : ByteArray)) := cT ab 0
          have eg := blk_frozen ab.out 0
          have cK := af.out
          have cL := ah.out
          have eM : w61.cell? ⟨ae, 1, none⟩ = some (.string (⟨#[]⟩ : ByteArray)) := cT ab 1
          have eh := blk_frozen ab.out 1
          have cM := af.out
          have cN := ah.out
          have eN : w61.cell? ⟨ae, 2, none⟩ = some (.string (⟨#[]⟩ : ByteArray)) := cT ab 2
          have ei := blk_frozen ab.out 2
          have cO := af.out
          have cP := ah.out
          have eO : w61.cell? ⟨ae, 3, none⟩ = some (.slice none 0 0) := cT ab 3
          have ej := blk_frozen ab.out 3
          have cQ := af.out
          have cR := ah.out
          refine skip_ (w1 := ?_) (by rfl) rfl ?_ ?_
          rotate_left
          ·go_simp
           rfl
          refine hK.out _ _ ⟨((cell_far (p := ⟨ae, _, none⟩) (by first | exact Kd.own_blk (Kd.R_ne ad.out ab.out (by decide)) | (rw [add_block]; exact Kd.own_blk (Kd.R_ne ad.out ab.out (by decide))) | (show (Addr.add _ _).block ≠ _; rw [add_block]; exact Kd.own_blk (Kd.R_ne ad.out ab.out (by decide))) | (dsimp only; exact Kd.own_blk (Kd.R_ne ad.out ab.out (by decide)))) _).trans (((cell_far (p := ⟨ae, _, none⟩) (by first | exact Kd.own_blk (Kd.R_ne ad.out ab.out (by decide)) | (rw [add_block]; exact Kd.own_blk (Kd.R_ne ad.out ab.out (by decide))) | (show (Addr.add _ _).block ≠ _; rw [add_block]; exact Kd.own_blk (Kd.R_ne ad.out ab.out (by decide))) | (dsimp only; exact Kd.own_blk (Kd.R_ne ad.out ab.out (by decide)))) _).trans (((cell_far (p := ⟨ae, _, none⟩) (by first | exact Kd.own_blk (Kd.R_ne ad.out ab.out (by decide)) | (rw [add_block]; exact Kd.own_blk (Kd.R_ne ad.out ab.out (by decide))) | (show (Addr.add _ _).block ≠ _; rw [add_block]; exact Kd.own_blk (Kd.R_ne ad.out ab.out (by decide))) | (dsimp only; exact Kd.own_blk (Kd.R_ne ad.out ab.out (by decide)))) _).trans (((cell_far (p := ⟨ae, _, none⟩) (by first | exact Kd.own_blk (Kd.R_ne ad.out ab.out (by decide)) | (rw [add_block]; exact Kd.own_blk (Kd.R_ne ad.out ab.out (by decide))) | (show (Addr.add _ _).block ≠ _; rw [add_block]; exact Kd.own_blk (Kd.R_ne ad.out ab.out (by decide))) | (dsimp only; exact Kd.own_blk (Kd.R_ne ad.out ab.out (by decide)))) _).trans (hHeld.1)))))))), ((cell_far (p := ⟨ae, _, none⟩) (by first | exact Kd.own_blk (Kd.R_ne ad.out ab.out (by decide)) | (rw [add_block]; exact Kd.own_blk (Kd.R_ne ad.out ab.out (by decide))) | (show (Addr.add _ _).block ≠ _; rw [add_block]; exact Kd.own_blk (Kd.R_ne ad.out ab.out (by decide))) | (dsimp only; exact Kd.own_blk (Kd.R_ne ad.out ab.out (by decide)))) _).trans (((cell_far (p := ⟨ae, _, none⟩) (by first | exact Kd.own_blk (Kd.R_ne ad.out ab.out (by decide)) | (rw [add_block]; exact Kd.own_blk (Kd.R_ne ad.out ab.out (by decide))) | (show (Addr.add _ _).block ≠ _; rw [add_block]; exact Kd.own_blk (Kd.R_ne ad.out ab.out (by decide))) | (dsimp only; exact Kd.own_blk (Kd.R_ne ad.out ab.out (by decide)))) _).trans (((cell_far (p := ⟨ae, _, none⟩) (by first | exact Kd.own_blk (Kd.R_ne ad.out ab.out (by decide)) | (rw [add_block]; exact Kd.own_blk (Kd.R_ne ad.out ab.out (by decide))) | (show (Addr.add _ _).block ≠ _; rw [add_block]; exact Kd.own_blk (Kd.R_ne ad.out ab.out (by decide))) | (dsimp only; exact Kd.own_blk (Kd.R_ne ad.out ab.out (by decide)))) _).trans (((cell_far (p := ⟨ae, _, none⟩) (by first | exact Kd.own_blk (Kd.R_ne ad.out ab.out (by decide)) | (rw [add_block]; exact Kd.own_blk (Kd.R_ne ad.out ab.out (by decide))) | (show (Addr.add _ _).block ≠ _; rw [add_block]; exact Kd.own_blk (Kd.R_ne ad.out ab.out (by decide))) | (dsimp only; exact Kd.own_blk (Kd.R_ne ad.out ab.out (by decide)))) _).trans (hHeld.2.1)))))))), ((cell_far (p := ⟨ae, _, none⟩) (by first | exact Kd.own_blk (Kd.R_ne ad.out ab.out (by decide)) | (rw [add_block]; exact Kd.own_blk (Kd.R_ne ad.out ab.out (by decide))) | (show (Addr.add _ _).block ≠ _; rw [add_block]; exact Kd.own_blk (Kd.R_ne ad.out ab.out (by decide))) | (dsimp only; exact Kd.own_blk (Kd.R_ne ad.out ab.out (by decide)))) _).trans (((cell_far (p := ⟨ae, _, none⟩) (by first | exact Kd.own_blk (Kd.R_ne ad.out ab.out (by decide)) | (rw [add_block]; exact Kd.own_blk (Kd.R_ne ad.out ab.out (by decide))) | (show (Addr.add _ _).block ≠ _; rw [add_block]; exact Kd.own_blk (Kd.R_ne ad.out ab.out (by decide))) | (dsimp only; exact Kd.own_blk (Kd.R_ne ad.out ab.out (by decide)))) _).trans (((cell_far (p := ⟨ae, _, none⟩) (by first | exact Kd.own_blk (Kd.R_ne ad.out ab.out (by decide)) | (rw [add_block]; exact Kd.own_blk (Kd.R_ne ad.out ab.out (by decide))) | (show (Addr.add _ _).block ≠ _; rw [add_block]; exact Kd.own_blk (Kd.R_ne ad.out ab.out (by decide))) | (dsimp only; exact Kd.own_blk (Kd.R_ne ad.out ab.out (by decide)))) _).trans (((cell_far (p := ⟨ae, _, none⟩) (by first | exact Kd.own_blk (Kd.R_ne ad.out ab.out (by decide)) | (rw [add_block]; exact Kd.own_blk (Kd.R_ne ad.out ab.out (by decide))) | (show (Addr.add _ _).block ≠ _; rw [add_block]; exact Kd.own_blk (Kd.R_ne ad.out ab.out (by decide))) | (dsimp only; exact Kd.own_blk (Kd.R_ne ad.out ab.out (by decide)))) _).trans (hHeld.2.2))))))))⟩ (fun hHeld => ?_)
          clear hK K
          refine done_ (done_of HT_.out (by kernel_rfl)) ?_
          have ek := ah.out
          have el := af.out
          have cS : w61.cell? ⟨ae, 0, none⟩ = some (.string (⟨#[]⟩ : ByteArray)) := cT ab 0
          have cU : w61.cell? ⟨ae, 1, none⟩ = some (.string (⟨#[]⟩ : ByteArray)) := cT ab 1
          have cV : w61.cell? ⟨ae, 2, none⟩ = some (.string (⟨#[]⟩ : ByteArray)) := cT ab 2
          have cW : w61.cell? ⟨ae, 3, none⟩ = some (.slice none 0 0) := cT ab 3
          have cX := blk_frozen ab.out 0
          have cY := blk_frozen ab.out 1
          have cZ := blk_frozen ab.out 2
          have c_ := blk_frozen ab.out 3
          have da : w61.cell? ⟨ag, 0, none⟩ = some (.string (⟨#[]⟩ : ByteArray)) := cT ac 0
          have db : w61.cell? ⟨ag, 1, none⟩ = some (.string (⟨#[]⟩ : ByteArray)) := cT ac 1
          have dc : w61.cell? ⟨ag, 2, none⟩ = some (.string (⟨#[]⟩ : ByteArray)) := cT ac 2
          have dd : w61.cell? ⟨ag, 3, none⟩ = some (.slice none 0 0) := cT ac 3
          have de := blk_frozen ac.out 0
          have df := blk_frozen ac.out 1
          have dg := blk_frozen ac.out 2
          have dh := blk_frozen ac.out 3
          try go_wp2
          refine bodyPost_ret (results_ct rfl _ _ ag 71 #[.string (rdOf ByteArray.empty aa 0), .string (rdOf ByteArray.empty aa 1), .string (rdOf ByteArray.empty aa 2), .slice none 0 0] (0, 0) _ rfl (by (with_reducible repeat (first | apply bn | apply bd | apply ba)); refine blk_put (cs := #[.string (rdOf ByteArray.empty aa 0), .string (rdOf ByteArray.empty aa 1), .string (rdOf ByteArray.empty aa 2), .slice none 0 0]) ?_ 3 _ rfl; (with_reducible repeat (first | apply bn | apply bd | apply ba)); refine blk_put (cs := #[.string (rdOf ByteArray.empty aa 0), .string (rdOf ByteArray.empty aa 1), .string (⟨#[]⟩ : ByteArray), .slice none 0 0]) ?_ 2 _ rfl; (with_reducible repeat (first | apply bn | apply bd | apply ba)); refine blk_put (cs := #[.string (rdOf ByteArray.empty aa 0), .string (⟨#[]⟩ : ByteArray), .string (⟨#[]⟩ : ByteArray), .slice none 0 0]) ?_ 1 _ rfl; (with_reducible repeat (first | apply bn | apply bd | apply ba)); refine blk_put (cs := #[.string (⟨#[]⟩ : ByteArray), .string (⟨#[]⟩ : ByteArray), .string (⟨#[]⟩ : ByteArray), .slice none 0 0]) ?_ 0 _ rfl; (with_reducible repeat (first | apply bn | apply bd | apply ba)); refine blk_far ?_ af.out _; (with_reducible repeat (first | apply bn | apply bd | apply ba)); refine blk_far ?_ af.out _; (with_reducible repeat (first | apply bn | apply bd | apply ba)); refine blk_far ?_ af.out _; (with_reducible repeat (first | apply bn | apply bd | apply ba)); refine blk_far ?_ af.out _; exact bT ac.out) Tryd.underlying71 rfl (by kernel_rfl)) rfl ?_
          exact ⟨_, by first | rfl | (simp [errW_none, errW_some] <;> rfl) | (simp [*, errW_none, errW_some] <;> rfl), by first | exact Kd.R_nil _ _ _ _ _ | exact Kd.N_nil _ _ _ _ _ | exact Kd.V_nil _ _ _ _ _ | exact Kd.Q_nil _ _ _ _ _ | exact Kd.S_nil _ _ _ _ _, by repeat (first | (with_reducible first | exact HB.out | apply pA | apply pN | apply pD | refine eU ?_ (by assumption)) | exact HB.out)⟩
        ·rw [if_neg c33] at H
         exact absurd H (by simp)
       ·rw [if_neg c32] at H
        exact absurd H (by simp)
      ·rw [if_neg c31] at H
       exact absurd H (by simp)
  ·rw [if_neg c4] at H
   exact absurd H (by simp)
 ·replace c3 := Bool.eq_false_iff.mpr c3
  subst c3
  have H1 : (some ((⟨#[]⟩ : ByteArray), (⟨#[]⟩ : ByteArray), (⟨#[]⟩ : ByteArray), ([] : List ByteArray), 1)) = some (r1, r2, r3, r4, r5) := by rw [if_neg (show ¬ (false = true) by decide)] at H; exact H
  clear H
  have H := H1
  clear H1
  simp only [Option.some.injEq, Prod.mk.injEq] at H
  obtain ⟨rfl, rfl, rfl, rfl, rfl⟩ := H
  go_enter Tryd.func46, Tryd.ntmps46
  go_wp2_with (first | ((with_reducible refine gate_dst (N := 2) rfl ?_); refine box_event ?hg (N := 2) ?hd (cs := #[.string (⟨#[]⟩ : ByteArray), .string (⟨#[]⟩ : ByteArray), .string (⟨#[]⟩ : ByteArray), .slice none 0 0]) (t := 71) ?hr ?_; (case hd => rfl); (case hg => rfl); (case hr => first | (go_simp; done) | (go_simp; rfl)); intro ag hg w69 hbox hb; have ac := am (hbox); have bR := am ((gT hg HB.out)); have bS := am ((gT hg HB.out)); replace HB := am (sT HB.out hb); clear hb hbox hg) | ((with_reducible refine gate_callee (f := 55) rfl ?_); refine gL (some 12) Tryd.func55 #[.string a0, .string (⟨#[118]⟩ : ByteArray)] ?_; (with_reducible refine (strings_HasPrefix.calls a0 (⟨#[118]⟩ : ByteArray) false _ A2.out).mono ?_); rintro e w' ⟨rfl, ⟨nd, rfl⟩⟩; refine ⟨_, rfl, ?_⟩; (try (rw [drewN_self w69]; generalize hq_ : World.drewN w69 _ = w69; have n0_ : Aside0 (w69.heap[ag]? = some (.cells #[.string (⟨#[]⟩ : ByteArray), .string (⟨#[]⟩ : ByteArray), .string (⟨#[]⟩ : ByteArray), .slice none 0 0] 71 (0, 0))) := ⟨by rw [← hq_]; exact (bT ac.out)⟩; have n1_ : Aside0 (Below w.heap.size w w69) := ⟨by rw [← hq_]; exact (eT HB.out)⟩; clear ac HB hq_; have ac := n0_; have HB := n1_; clear n0_ n1_)); have di : w69.cell? ⟨ag, 0, none⟩ = some (.string (⟨#[]⟩ : ByteArray)) := cT ac 0; have dj : w69.cell? ⟨ag, 1, none⟩ = some (.string (⟨#[]⟩ : ByteArray)) := cT ac 1; have dk : w69.cell? ⟨ag, 2, none⟩ = some (.string (⟨#[]⟩ : ByteArray)) := cT ac 2; have dl : w69.cell? ⟨ag, 3, none⟩ = some (.slice none 0 0) := cT ac 3; have dm := blk_frozen ac.out 0; have dn := blk_frozen ac.out 1; have dp := blk_frozen ac.out 2; have dq := blk_frozen ac.out 3))
  refine bodyPost_ret (results_ct rfl _ _ ag 71 #[.string (⟨#[]⟩ : ByteArray), .string (⟨#[]⟩ : ByteArray), .string (⟨#[]⟩ : ByteArray), .slice none 0 0] (0, 0) _ rfl (by (with_reducible repeat (first | apply bn | apply bd | apply ba)); refine blk_put (cs := #[.string (⟨#[]⟩ : ByteArray), .string (⟨#[]⟩ : ByteArray), .string (⟨#[]⟩ : ByteArray), .slice none 0 0]) ?_ 3 _ rfl; (with_reducible repeat (first | apply bn | apply bd | apply ba)); refine blk_put (cs := #[.string (⟨#[]⟩ : ByteArray), .string (⟨#[]⟩ : ByteArray), .string (⟨#[]⟩ : ByteArray), .slice none 0 0]) ?_ 2 _ rfl; (with_reducible repeat (first | apply bn | apply bd | apply ba)); refine blk_put (cs := #[.string (⟨#[]⟩ : ByteArray), .string (⟨#[]⟩ : ByteArray), .string (⟨#[]⟩ : ByteArray), .slice none 0 0]) ?_ 1 _ rfl; (with_reducible repeat (first | apply bn | apply bd | apply ba)); refine blk_put (cs := #[.string (⟨#[]⟩ : ByteArray), .string (⟨#[]⟩ : ByteArray), .string (⟨#[]⟩ : ByteArray), .slice none 0 0]) ?_ 0 _ rfl; exact bT ac.out) Tryd.underlying71 rfl (by kernel_rfl)) rfl ?_
  exact ⟨_, by first | rfl | (simp [errW_none, errW_some] <;> rfl) | (simp [*, errW_none, errW_some] <;> rfl), by first | exact Kd.R_nil _ _ _ _ _ | exact Kd.N_nil _ _ _ _ _ | exact Kd.V_nil _ _ _ _ _ | exact Kd.Q_nil _ _ _ _ _ | exact Kd.S_nil _ _ _ _ _, by repeat (first | (with_reducible first | exact HB.out | apply pA | apply pN | apply pD | refine eU ?_ (by assumption)) | exact HB.out)⟩

/-! ### version_May: function 39 -/
def version_May.f (k : Nat) (a0 : ByteArray) : Option (Bool) := (version_Split.f k a0).bind fun bt176 => (some (bt176.2.2.2.2 == 0))
theorem version_May.mono : ∀ a0 k, LeO (version_May.f k a0) (version_May.f (k + 1) a0) := by
 intro a0 k
 unfold version_May.f
 repeat' first
   | (with_reducible exact version_Split.mono _ _)
   | (with_reducible exact LeO.refl _)
   | (with_reducible exact LeO.none _)
   | (with_reducible refine LeO.ite ?_ ?_)
   | (with_reducible refine LeO.bind ?_ (fun _ => ?_))
   | exact version_Split.mono _ _
   | exact LeO.none _
   | refine LeO.ite ?_ ?_
   | refine LeO.bind ?_ (fun _ => ?_)
set_option maxHeartbeats 8000000 in
set_option maxRecDepth 100000 in
theorem version_May.calls (k : Nat) (a0 : ByteArray) (r : Bool) (w : World) (h : version_May.f k a0 = some r) :
  Calls Tryd.prog 39 #[.string a0] w fun e w' => e = .returned (.bool r) ∧ Below w.heap.size w w' := by
 have hu71 := Tryd.underlying71
 have HB := am (Below.refl w.heap.size w)
 have H : ((version_Split.f k a0).bind fun bt176 => (some (bt176.2.2.2.2 == 0))) = some r := h
 clear h
 replace H := Option.bind_eq_some_iff.mp H
 obtain ⟨⟨dF, dG, dH, dI, ca⟩, A20, H⟩ := H
 replace H : (some (ca == 0)) = some r := H
 have A2 := Aside0.mk A20
 clear A20
 obtain rfl := Option.some.inj H
 go_enter Tryd.func39, Tryd.ntmps39
 go_wp2_with (first | ((with_reducible refine gate_callee (f := 46) rfl ?_); refine gL (some 7) Tryd.func46 #[.string a0] ?_; (with_reducible refine (version_Split.calls k a0 dF dG dH dI ca _ A2.out).mono ?_); rintro e w3 ⟨eP, rfl, ho0, hb⟩; refine ⟨_, rfl, ?_⟩; have bf := am (Kd.R_lower ho0 (below_size (eT HB.out))); replace HB := am (sT HB.out hb); (try clear hb); (try clear hb2); (try clear hk); (try clear hi); (try clear ho0)) | ((with_reducible refine gate_dst (N := 3) rfl ?_); refine box_event ?hg (N := 3) ?hd (cs := #[.string (⟨#[]⟩ : ByteArray), .string (⟨#[]⟩ : ByteArray), .string (⟨#[]⟩ : ByteArray), .slice none 0 0]) (t := 71) ?hr ?_; (case hd => rfl); (case hg => rfl); (case hr => first | (go_simp; done) | (go_simp; rfl)); intro a5 hg w4 hbox hb; replace bf := am (rB bf.out hb); have aG := am (hbox); have em := am ((gT hg HB.out)); have en := am ((gT hg HB.out)); replace HB := am (sT HB.out hb); clear hb hbox hg; have dJ : w4.cell? ⟨a5, 0, none⟩ = some (.string (⟨#[]⟩ : ByteArray)) := cT aG 0; have dK : w4.cell? ⟨a5, 1, none⟩ = some (.string (⟨#[]⟩ : ByteArray)) := cT aG 1; have dL : w4.cell? ⟨a5, 2, none⟩ = some (.string (⟨#[]⟩ : ByteArray)) := cT aG 2; have dM : w4.cell? ⟨a5, 3, none⟩ = some (.slice none 0 0) := cT aG 3; have dN := blk_frozen aG.out 0; have dP := blk_frozen aG.out 1; have dQ := blk_frozen aG.out 2; have dR := blk_frozen aG.out 3; obtain ⟨Ao6, co6, eo6⟩ := Kd.R_slice bf.out; subst eo6))
 go_ret
 exact ⟨by first | rfl | (simp [errW_none, errW_some] <;> rfl) | (simp [*, errW_none, errW_some] <;> rfl), by repeat (first | (with_reducible first | exact HB.out | apply pA | apply pN | apply pD | refine eU ?_ (by assumption)) | exact HB.out)⟩

/-! ### node_May: function 27 -/
def node_May.f (k : Nat) (a0_0 : ByteArray) (a0_1 : ByteArray) : Option (Bool) := (path_May.f k a0_0).bind fun a_ => (if a_ = true then ((version_May.f k a0_1).bind fun aM => (some aM)) else (some false))
theorem node_May.mono : ∀ a0 a1 k, LeO (node_May.f k a0 a1) (node_May.f (k + 1) a0 a1) := by
 intro a0 a1 k
 unfold node_May.f
 repeat' first
   | (with_reducible exact path_May.mono _ _)
   | (with_reducible exact version_May.mono _ _)
   | (with_reducible exact LeO.refl _)
   | (with_reducible exact LeO.none _)
   | (with_reducible refine LeO.ite ?_ ?_)
   | (with_reducible refine LeO.bind ?_ (fun _ => ?_))
   | exact path_May.mono _ _
   | exact version_May.mono _ _
   | exact LeO.none _
   | refine LeO.ite ?_ ?_
   | refine LeO.bind ?_ (fun _ => ?_)
set_option maxHeartbeats 8000000 in
set_option maxRecDepth 100000 in
theorem node_May.calls (k : Nat) (a0_0 : ByteArray) (a0_1 : ByteArray) (r : Bool) (w : World) (h : node_May.f k a0_0 a0_1 = some r) :
  Calls Tryd.prog 27 #[.agg #[.string a0_0, .string a0_1]] w fun e w' => e = .returned (.bool r) ∧ Below w.heap.size w w' := by
 have hu27 := Tryd.underlying27
 have HB := am (Below.refl w.heap.size w)
 have H : ((path_May.f k a0_0).bind fun a_ => (if a_ = true then ((version_May.f k a0_1).bind fun aM => (some aM)) else (some false))) = some r := h
 clear h
 replace H := Option.bind_eq_some_iff.mp H
 obtain ⟨a_, A20, H⟩ := H
 replace H : (if a_ = true then ((version_May.f k a0_1).bind fun aM => (some aM)) else (some false)) = some r := H
 have A2 := Aside0.mk A20
 clear A20
 by_cases c3 : a_ = true
 ·subst c3
  have H1 : ((version_May.f k a0_1).bind fun aM => (some aM)) = some r := by rw [if_pos rfl] at H; exact H
  clear H
  have H := H1
  clear H1
  replace H := Option.bind_eq_some_iff.mp H
  obtain ⟨aM, A40, H⟩ := H
  replace H : (some aM) = some r := H
  have A4 := Aside0.mk A40
  clear A40
  obtain rfl := Option.some.inj H
  go_enter Tryd.func27, Tryd.ntmps27
  go_wp2_with (first | ((with_reducible refine gate_dst (N := 1) rfl ?_); refine box_event ?hg (N := 1) ?hd (cs := #[.string a0_0, .string a0_1]) (t := 27) ?hr ?_; (case hd => rfl); (case hg => rfl); (case hr => first | (go_simp; done) | (go_simp; rfl)); intro aL hg w5 hbox hb; have ao := am (hbox); have cb := am ((gT hg HB.out)); have cc := am ((gT hg HB.out)); replace HB := am (sT HB.out hb); clear hb hbox hg; have dS : w5.cell? ⟨aL, 0, none⟩ = some (.string a0_0) := cT ao 0; have dT : w5.cell? ⟨aL, 1, none⟩ = some (.string a0_1) := cT ao 1; have dU := blk_frozen ao.out 0; have dV := blk_frozen ao.out 1) | ((with_reducible refine gate_callee (f := 38) rfl ?_); refine gL (some 5) Tryd.func38 #[.string a0_0] ?_; (with_reducible refine (path_May.calls k a0_0 true _ A2.out).mono ?_); rintro e w7 ⟨rfl, hb⟩; refine ⟨_, rfl, ?_⟩; replace ao := am (bB ao.out hb); replace HB := am (sT HB.out hb); (try clear hb); (try clear hb2); (try clear hk); (try clear hi); have dW : w7.cell? ⟨aL, 0, none⟩ = some (.string a0_0) := cT ao 0; have dX : w7.cell? ⟨aL, 1, none⟩ = some (.string a0_1) := cT ao 1; have dY := blk_frozen ao.out 0; have dZ := blk_frozen ao.out 1) | (go_at_call 39; (with_reducible refine (version_May.calls k a0_1 aM _ A4.out).mono ?_); rintro e w9 ⟨rfl, hb⟩; replace ao := am (bB ao.out hb); replace HB := am (sT HB.out hb); (try clear hb); (try clear hb2); (try clear hk); (try clear hi)))
  go_ret
  exact ⟨by first | rfl | (simp [errW_none, errW_some] <;> rfl) | (simp [*, errW_none, errW_some] <;> rfl), eT HB.out⟩
 ·replace c3 := Bool.eq_false_iff.mpr c3
  subst c3
  have H1 : (some false) = some r := by rw [if_neg (show ¬ (false = true) by decide)] at H; exact H
  clear H
  have H := H1
  clear H1
  obtain rfl := Option.some.inj H
  go_enter Tryd.func27, Tryd.ntmps27
  go_wp2_with (first | ((with_reducible refine gate_dst (N := 1) rfl ?_); refine box_event ?hg (N := 1) ?hd (cs := #[.string a0_0, .string a0_1]) (t := 27) ?hr ?_; (case hd => rfl); (case hg => rfl); (case hr => first | (go_simp; done) | (go_simp; rfl)); intro aL hg w10 hbox hb; have ao := am (hbox); have cb := am ((gT hg HB.out)); have cc := am ((gT hg HB.out)); replace HB := am (sT HB.out hb); clear hb hbox hg; have dr : w10.cell? ⟨aL, 0, none⟩ = some (.string a0_0) := cT ao 0; have dt : w10.cell? ⟨aL, 1, none⟩ = some (.string a0_1) := cT ao 1; have du := blk_frozen ao.out 0; have dv := blk_frozen ao.out 1) | ((with_reducible refine gate_callee (f := 38) rfl ?_); refine gL (some 5) Tryd.func38 #[.string a0_0] ?_; (with_reducible refine (path_May.calls k a0_0 false _ A2.out).mono ?_); rintro e w12 ⟨rfl, hb⟩; refine ⟨_, rfl, ?_⟩; replace ao := am (bB ao.out hb); replace HB := am (sT HB.out hb); (try clear hb); (try clear hb2); (try clear hk); (try clear hi)))
  go_ret
  exact ⟨by first | rfl | (simp [errW_none, errW_some] <;> rfl) | (simp [*, errW_none, errW_some] <;> rfl), eT HB.out⟩

/-! ### cmp_Or_int: function 43 -/
def cmp_Or_int.l0 : Nat → Int → List Int → Int → Int → Option (Int)
 | 0, _, _, _, _ => none
 | k + 1, x3, x6, x7, x8 => if x8 < x7 then (if 0 ≤ x8 then (if x8 < (x6.length : Int) then (if (rd x6 x8) = x3 then (cmp_Or_int.l0 k x3 x6 x7 (wrap64 (x8 + 1))) else (some (rd x6 x8))) else (none)) else (none)) else (some x3)
def cmp_Or_int.f (k : Nat) (l0 : List Int) : Option (Int) := cmp_Or_int.l0 k 0 l0 (l0.length : Int) 0
theorem cmp_Or_int.mono_l : ∀ k, (∀ y0 y1 y2 y3, LeO (cmp_Or_int.l0 k y0 y1 y2 y3) (cmp_Or_int.l0 (k + 1) y0 y1 y2 y3))
 | 0 => fun _ _ _ _ r h => by simp [cmp_Or_int.l0] at h
 | k + 1 => by
  have ih0 := cmp_Or_int.mono_l k
  ·intro y0 y1 y2 y3
   unfold cmp_Or_int.l0
   repeat' first
   | (with_reducible exact ih0 _ _ _ _)
   | (with_reducible exact LeO.refl _)
   | (with_reducible exact LeO.none _)
   | (with_reducible refine LeO.ite ?_ ?_)
   | (with_reducible refine LeO.bind ?_ (fun _ => ?_))
   | exact ih0 _ _ _ _
   | exact LeO.none _
   | refine LeO.ite ?_ ?_
   | refine LeO.bind ?_ (fun _ => ?_)
theorem cmp_Or_int.mono : ∀ a0 k, LeO (cmp_Or_int.f k a0) (cmp_Or_int.f (k + 1) a0) := by
 intro a0 k
 have ih0 := cmp_Or_int.mono_l k
 unfold cmp_Or_int.f
 repeat' first
   | (with_reducible exact ih0 _ _ _ _)
   | (with_reducible exact LeO.refl _)
   | (with_reducible exact LeO.none _)
   | (with_reducible refine LeO.ite ?_ ?_)
   | (with_reducible refine LeO.bind ?_ (fun _ => ?_))
   | exact ih0 _ _ _ _
   | exact LeO.none _
   | refine LeO.ite ?_ ?_
   | refine LeO.bind ?_ (fun _ => ?_)
set_option maxHeartbeats 8000000 in
set_option maxRecDepth 100000 in
theorem cmp_Or_int.calls (k : Nat) (A0 : Option Addr) (c0 : Nat) (l0 : List Int) (r : Int) (w : World) (hr0 : Kd.C (Kd.int .i64) w A0 l0.length l0) (hc0 : l0.length ≤ c0) (h : cmp_Or_int.f k l0 = some r) :
  Calls Tryd.prog 43 #[.slice A0 l0.length c0] w fun e w' => e = .returned (.int .i64 r) ∧ Drawn0 w w' := by
 have HR0 := Aside0.mk hr0
 have HC0 := Aside0.mk hc0
 clear hr0 hc0
 have H : (cmp_Or_int.l0 k 0 l0 (l0.length : Int) 0) = some r := h
 clear h
 have H' := Aside0.mk H
 clear H
 go_enter Tryd.func43, Tryd.ntmps43
 go_wp2
 go_loopg [8] k (fun kq v8 w' => ∃ (aA : Int), v8 = .int .i64 aA ∧ Aside0 (cmp_Or_int.l0 kq 0 l0 (l0.length : Int) aA = some r) ∧ Aside0 (kq ≤ k) ∧ Drawn0 w w')
 case atStart => exact ⟨(0), (by first | rfl | (simp; done) | (simp [*]; done)), H', ⟨Nat.le_refl _⟩, by repeat (first | exact Drawn0.refl _ | apply Drawn0.step)⟩
 case round =>
  clear H'
  obtain ⟨aA, rfl, HA, HK1, ⟨m1, rfl⟩⟩ := hrel
  cases gk with
  | zero => exact absurd HA.out (by simp [cmp_Or_int.l0])
  | succ k1 =>
   have H := HA.out
   clear HA
   simp only [cmp_Or_int.l0] at H
   by_cases c2 : aA < (l0.length : Int)
   ·rw [if_pos c2] at H
    have d0 : decide (aA < (l0.length : Int)) = true := decide_eq_true c2
    clear c2
    by_cases c3 : 0 ≤ aA
    ·rw [if_pos c3] at H
     have aV : decide (0 ≤ aA) = true := decide_eq_true c3
     clear c3
     by_cases c4 : aA < (l0.length : Int)
     ·rw [if_pos c4] at H
      have bK : decide (aA < (l0.length : Int)) = true := decide_eq_true c4
      clear c4
      by_cases c5 : (rd l0 aA) = 0
      ·rw [if_pos c5] at H
       have d1 : ((rd l0 aA) == 0) = true := beq_iff_eq.mpr c5
       have d2 : ((rd l0 aA) != 0) = false := bne_eq_false_iff_eq.mpr c5
       clear c5
       have H' := Aside0.mk H
       clear H
       have p187 : 0 ≤ (aA : Int) := of_decide_eq_true (by first | (with_reducible assumption) | assumption)
       have q187 : aA < (l0.length : Int) := of_decide_eq_true (by first | (with_reducible assumption) | assumption)
       obtain ⟨ad187, e187, bD⟩ := Kd.at_int HR0.out aA p187 q187
       cases e187
       replace p187 := eq_true p187
       replace q187 := eq_true q187
       go_wp2
       go_roundg k1
       case measure => have := HK1.out; omega
       case rel => exact ⟨(wrap64 (aA + 1)), (by first | rfl | (simp; done) | (simp [*]; done)), H', ⟨by have := HK1.out; omega⟩, by repeat (first | exact Drawn0.refl _ | apply Drawn0.step)⟩
      ·rw [if_neg c5] at H
       have d1 : ((rd l0 aA) == 0) = false := beq_eq_false_iff_ne.mpr c5
       have d2 : ((rd l0 aA) != 0) = true := bne_iff_ne.mpr c5
       obtain rfl := Option.some.inj H
       have p187 : 0 ≤ (aA : Int) := of_decide_eq_true (by first | (with_reducible assumption) | assumption)
       have q187 : aA < (l0.length : Int) := of_decide_eq_true (by first | (with_reducible assumption) | assumption)
       obtain ⟨ad187, e187, bD⟩ := Kd.at_int HR0.out aA p187 q187
       cases e187
       replace p187 := eq_true p187
       replace q187 := eq_true q187
       go_wp2
       go_ret
       exact ⟨by first | rfl | (simp; done) | (simp [*]; done), by repeat (first | exact Drawn0.refl _ | apply Drawn0.step)⟩
     ·rw [if_neg c4] at H
      exact absurd H (by simp)
    ·rw [if_neg c3] at H
     exact absurd H (by simp)
   ·rw [if_neg c2] at H
    have d0 : decide (aA < (l0.length : Int)) = false := decide_eq_false c2
    clear c2
    obtain rfl := Option.some.inj H
    go_wp2
    go_ret
    exact ⟨by first | rfl | (simp; done) | (simp [*]; done), by repeat (first | exact Drawn0.refl _ | apply Drawn0.step)⟩

/-! ### cmp_isNaN_string: function 61 -/
def cmp_isNaN_string.f (a0 : ByteArray) : Option (Bool) := some (a0.toList != a0.toList)
set_option maxHeartbeats 8000000 in
set_option maxRecDepth 100000 in
theorem cmp_isNaN_string.calls (a0 : ByteArray) (r : Bool) (w : World) (h : cmp_isNaN_string.f a0 = some r) :
  Calls Tryd.prog 61 #[.string a0] w fun e w' => e = .returned (.bool r) ∧ Drawn0 w w' := by
 have H : (some (a0.toList != a0.toList)) = some r := h
 clear h
 obtain rfl := Option.some.inj H
 go_enter Tryd.func61, Tryd.ntmps61
 go_wp2
 go_ret
 exact ⟨by first | rfl | (simp; done) | (simp [*]; done), by repeat (first | exact Drawn0.refl _ | apply Drawn0.step)⟩

/-! ### cmp_Compare_string: function 52 -/
def cmp_Compare_string.f (a0 : ByteArray) (a1 : ByteArray) : Option (Int) := (cmp_isNaN_string.f a0).bind fun aW => ((cmp_isNaN_string.f a1).bind fun aD => (if aW = true then (if aD = true then (some 0) else (some (-1))) else (if aD = true then (some 1) else (if (Op.bytesLess a0.toList a1.toList) = true then (some (-1)) else (if (Op.bytesLess a1.toList a0.toList) = true then (some 1) else (some 0))))))
set_option maxHeartbeats 8000000 in
set_option maxRecDepth 100000 in
theorem cmp_Compare_string.calls (a0 : ByteArray) (a1 : ByteArray) (r : Int) (w : World) (h : cmp_Compare_string.f a0 a1 = some r) :
  Calls Tryd.prog 52 #[.string a0, .string a1] w fun e w' => e = .returned (.int .i64 r) ∧ Drawn0 w w' := by
 have H : ((cmp_isNaN_string.f a0).bind fun aW => ((cmp_isNaN_string.f a1).bind fun aD => (if aW = true then (if aD = true then (some 0) else (some (-1))) else (if aD = true then (some 1) else (if (Op.bytesLess a0.toList a1.toList) = true then (some (-1)) else (if (Op.bytesLess a1.toList a0.toList) = true then (some 1) else (some 0))))))) = some r := h
 clear h
 replace H := Option.bind_eq_some_iff.mp H
 obtain ⟨aW, A30, H⟩ := H
 replace H : ((cmp_isNaN_string.f a1).bind fun aD => (if aW = true then (if aD = true then (some 0) else (some (-1))) else (if aD = true then (some 1) else (if (Op.bytesLess a0.toList a1.toList) = true then (some (-1)) else (if (Op.bytesLess a1.toList a0.toList) = true then (some 1) else (some 0)))))) = some r := H
 have A3 := Aside0.mk A30
 clear A30
 replace H := Option.bind_eq_some_iff.mp H
 obtain ⟨aD, A40, H⟩ := H
 replace H : (if aW = true then (if aD = true then (some 0) else (some (-1))) else (if aD = true then (some 1) else (if (Op.bytesLess a0.toList a1.toList) = true then (some (-1)) else (if (Op.bytesLess a1.toList a0.toList) = true then (some 1) else (some 0))))) = some r := H
 have A4 := Aside0.mk A40
 clear A40
 by_cases c5 : aW = true
 ·subst c5
  have H1 : (if aD = true then (some 0) else (some (-1))) = some r := by rw [if_pos rfl] at H; exact H
  clear H
  have H := H1
  clear H1
  by_cases c6 : aD = true
  ·subst c6
   have H1 : (some 0) = some r := by rw [if_pos rfl] at H; exact H
   clear H
   have H := H1
   clear H1
   obtain rfl := Option.some.inj H
   go_enter Tryd.func52, Tryd.ntmps52
   go_wp2_with (first | ((with_reducible refine gate_callee (f := 61) rfl ?_); refine gL (some 8) Tryd.func61 #[.string a0] ?_; (with_reducible refine (cmp_isNaN_string.calls a0 true _ A3.out).mono ?_); rintro e w' ⟨rfl, ⟨nd, rfl⟩⟩; refine ⟨_, rfl, ?_⟩) | ((with_reducible refine gate_callee (f := 61) rfl ?_); refine gL (some 10) Tryd.func61 #[.string a1] ?_; (with_reducible refine (cmp_isNaN_string.calls a1 true _ A4.out).mono ?_); rintro e w' ⟨rfl, ⟨nd, rfl⟩⟩; refine ⟨_, rfl, ?_⟩))
   go_ret
   exact ⟨by first | rfl | (simp; done) | (simp [*]; done), by repeat (first | exact Drawn0.refl _ | apply Drawn0.step)⟩
  ·replace c6 := Bool.eq_false_iff.mpr c6
   subst c6
   have H1 : (some (-1)) = some r := by rw [if_neg (show ¬ (false = true) by decide)] at H; exact H
   clear H
   have H := H1
   clear H1
   obtain rfl := Option.some.inj H
   go_enter Tryd.func52, Tryd.ntmps52
   go_wp2_with (first | ((with_reducible refine gate_callee (f := 61) rfl ?_); refine gL (some 8) Tryd.func61 #[.string a0] ?_; (with_reducible refine (cmp_isNaN_string.calls a0 true _ A3.out).mono ?_); rintro e w' ⟨rfl, ⟨nd, rfl⟩⟩; refine ⟨_, rfl, ?_⟩) | ((with_reducible refine gate_callee (f := 61) rfl ?_); refine gL (some 10) Tryd.func61 #[.string a1] ?_; (with_reducible refine (cmp_isNaN_string.calls a1 false _ A4.out).mono ?_); rintro e w' ⟨rfl, ⟨nd, rfl⟩⟩; refine ⟨_, rfl, ?_⟩))
   go_ret
   exact ⟨by first | rfl | (simp; done) | (simp [*]; done), by repeat (first | exact Drawn0.refl _ | apply Drawn0.step)⟩
 ·replace c5 := Bool.eq_false_iff.mpr c5
  subst c5
  have H1 : (if aD = true then (some 1) else (if (Op.bytesLess a0.toList a1.toList) = true then (some (-1)) else (if (Op.bytesLess a1.toList a0.toList) = true then (some 1) else (some 0)))) = some r := by rw [if_neg (show ¬ (false = true) by decide)] at H; exact H
  clear H
  have H := H1
  clear H1
  by_cases c7 : aD = true
  ·subst c7
   have H1 : (some 1) = some r := by rw [if_pos rfl] at H; exact H
   clear H
   have H := H1
   clear H1
   obtain rfl := Option.some.inj H
   go_enter Tryd.func52, Tryd.ntmps52
   go_wp2_with (first | ((with_reducible refine gate_callee (f := 61) rfl ?_); refine gL (some 8) Tryd.func61 #[.string a0] ?_; (with_reducible refine (cmp_isNaN_string.calls a0 false _ A3.out).mono ?_); rintro e w' ⟨rfl, ⟨nd, rfl⟩⟩; refine ⟨_, rfl, ?_⟩) | ((with_reducible refine gate_callee (f := 61) rfl ?_); refine gL (some 10) Tryd.func61 #[.string a1] ?_; (with_reducible refine (cmp_isNaN_string.calls a1 true _ A4.out).mono ?_); rintro e w' ⟨rfl, ⟨nd, rfl⟩⟩; refine ⟨_, rfl, ?_⟩))
   go_ret
   exact ⟨by first | rfl | (simp; done) | (simp [*]; done), by repeat (first | exact Drawn0.refl _ | apply Drawn0.step)⟩
  ·replace c7 := Bool.eq_false_iff.mpr c7
   subst c7
   have H1 : (if (Op.bytesLess a0.toList a1.toList) = true then (some (-1)) else (if (Op.bytesLess a1.toList a0.toList) = true then (some 1) else (some 0))) = some r := by rw [if_neg (show ¬ (false = true) by decide)] at H; exact H
   clear H
   have H := H1
   clear H1
   by_cases c8 : (Op.bytesLess a0.toList a1.toList) = true
   ·rw [if_pos c8] at H
    have d3 : (Op.bytesLess a0.toList a1.toList) = true := c8
    clear c8
    obtain rfl := Option.some.inj H
    go_enter Tryd.func52, Tryd.ntmps52
    go_wp2_with (first | ((with_reducible refine gate_callee (f := 61) rfl ?_); refine gL (some 8) Tryd.func61 #[.string a0] ?_; (with_reducible refine (cmp_isNaN_string.calls a0 false _ A3.out).mono ?_); rintro e w' ⟨rfl, ⟨nd, rfl⟩⟩; refine ⟨_, rfl, ?_⟩) | ((with_reducible refine gate_callee (f := 61) rfl ?_); refine gL (some 10) Tryd.func61 #[.string a1] ?_; (with_reducible refine (cmp_isNaN_string.calls a1 false _ A4.out).mono ?_); rintro e w' ⟨rfl, ⟨nd, rfl⟩⟩; refine ⟨_, rfl, ?_⟩))
    go_ret
    exact ⟨by first | rfl | (simp; done) | (simp [*]; done), by repeat (first | exact Drawn0.refl _ | apply Drawn0.step)⟩
   ·rw [if_neg c8] at H
    have d3 : (Op.bytesLess a0.toList a1.toList) = false := by simpa using c8
    clear c8
    by_cases c9 : (Op.bytesLess a1.toList a0.toList) = true
    ·rw [if_pos c9] at H
     have d4 : (Op.bytesLess a1.toList a0.toList) = true := c9
     clear c9
     obtain rfl := Option.some.inj H
     go_enter Tryd.func52, Tryd.ntmps52
     go_wp2_with (first | ((with_reducible refine gate_callee (f := 61) rfl ?_); refine gL (some 8) Tryd.func61 #[.string a0] ?_; (with_reducible refine (cmp_isNaN_string.calls a0 false _ A3.out).mono ?_); rintro e w' ⟨rfl, ⟨nd, rfl⟩⟩; refine ⟨_, rfl, ?_⟩) | ((with_reducible refine gate_callee (f := 61) rfl ?_); refine gL (some 10) Tryd.func61 #[.string a1] ?_; (with_reducible refine (cmp_isNaN_string.calls a1 false _ A4.out).mono ?_); rintro e w' ⟨rfl, ⟨nd, rfl⟩⟩; refine ⟨_, rfl, ?_⟩))
     go_ret
     exact ⟨by first | rfl | (simp; done) | (simp [*]; done), by repeat (first | exact Drawn0.refl _ | apply Drawn0.step)⟩
    ·rw [if_neg c9] at H
     have d4 : (Op.bytesLess a1.toList a0.toList) = false := by simpa using c9
     clear c9
     obtain rfl := Option.some.inj H
     go_enter Tryd.func52, Tryd.ntmps52
     go_wp2_with (first | ((with_reducible refine gate_callee (f := 61) rfl ?_); refine gL (some 8) Tryd.func61 #[.string a0] ?_; (with_reducible refine (cmp_isNaN_string.calls a0 false _ A3.out).mono ?_); rintro e w' ⟨rfl, ⟨nd, rfl⟩⟩; refine ⟨_, rfl, ?_⟩) | ((with_reducible refine gate_callee (f := 61) rfl ?_); refine gL (some 10) Tryd.func61 #[.string a1] ?_; (with_reducible refine (cmp_isNaN_string.calls a1 false _ A4.out).mono ?_); rintro e w' ⟨rfl, ⟨nd, rfl⟩⟩; refine ⟨_, rfl, ?_⟩))
     go_ret
     exact ⟨by first | rfl | (simp; done) | (simp [*]; done), by repeat (first | exact Drawn0.refl _ | apply Drawn0.step)⟩

/-! ### octet_Cmp: function 44 -/
def octet_Cmp.f (a0 : ByteArray) (a1 : ByteArray) : Option (Int) := (cmp_Compare_string.f a0 a1).bind fun bb => (some bb)
set_option maxHeartbeats 8000000 in
set_option maxRecDepth 100000 in
theorem octet_Cmp.calls (a0 : ByteArray) (a1 : ByteArray) (r : Int) (w : World) (h : octet_Cmp.f a0 a1 = some r) :
  Calls Tryd.prog 44 #[.string a0, .string a1] w fun e w' => e = .returned (.int .i64 r) ∧ Drawn0 w w' := by
 have H : ((cmp_Compare_string.f a0 a1).bind fun bb => (some bb)) = some r := h
 clear h
 replace H := Option.bind_eq_some_iff.mp H
 obtain ⟨bb, A30, H⟩ := H
 replace H : (some bb) = some r := H
 have A3 := Aside0.mk A30
 clear A30
 obtain rfl := Option.some.inj H
 go_enter Tryd.func44, Tryd.ntmps44
 go_wp2_with (first | ((with_reducible refine gate_callee (f := 52) rfl ?_); refine gL (some 7) Tryd.func52 #[.string a0, .string a1] ?_; (with_reducible refine (cmp_Compare_string.calls a0 a1 bb _ A3.out).mono ?_); rintro e w' ⟨rfl, ⟨nd, rfl⟩⟩; refine ⟨_, rfl, ?_⟩))
 go_ret
 exact ⟨by first | rfl | (simp; done) | (simp [*]; done), by repeat (first | exact Drawn0.refl _ | apply Drawn0.step)⟩

/-! ### cmp_isNaN_int: function 60 -/
def cmp_isNaN_int.f (a0 : Int) : Option (Bool) := some (a0 != a0)
set_option maxHeartbeats 8000000 in
set_option maxRecDepth 100000 in
theorem cmp_isNaN_int.calls (a0 : Int) (r : Bool) (w : World) (h : cmp_isNaN_int.f a0 = some r) :
  Calls Tryd.prog 60 #[.int .i64 a0] w fun e w' => e = .returned (.bool r) ∧ Drawn0 w w' := by
 have H : (some (a0 != a0)) = some r := h
 clear h
 obtain rfl := Option.some.inj H
 go_enter Tryd.func60, Tryd.ntmps60
 go_wp2
 go_ret
 exact ⟨by first | rfl | (simp; done) | (simp [*]; done), by repeat (first | exact Drawn0.refl _ | apply Drawn0.step)⟩

end Go.Proofs.YtomjppafgalaoaaDoor.P
