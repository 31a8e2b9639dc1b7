-- half the indentation
import Derived.Test.YtknmfmedklfepaaGreatDoorSqz
import Derived.Test.YtknmfmedklfepaaGreatDoorP0
import Derived.Test.YtknmfmedklfepaaGreatDoorP4
import Derived.Test.YtknmfmedklfepaaGreatDoorP9
import Derived.Test.YtknmfmedklfepaaGreatDoorP11
import Derived.Test.YtknmfmedklfepaaGreatDoorP12
import Derived.Test.YtknmfmedklfepaaGreatDoorP13
import Derived.Test.YtknmfmedklfepaaGreatDoorP16
namespace Go.Proofs.YtknmfmedklfepaaGreatDoor.P
open Go.RowKit Go.Proofs.YtknmfmedklfepaaGreatDoorW.PrintWords Go.Proofs.YtknmfmedklfepaaGreatDoorW.PrintLast Go.Proofs.YtknmfmedklfepaaGreatDoorW.PrintMore
attribute [local go_sem] max2_int min2_int max_two min_two max_three min_three max_four min_four
set_option linter.unusedVariables false
set_option linter.unusedSimpArgs false
set_option maxHeartbeats 8000000
set_option maxRecDepth 100000

/-! ### strings_ContainsAny: function 110 -/
def strings_ContainsAny.f (a0 : ByteArray) (a1 : ByteArray) : Option (Bool) := (strings_IndexAny.f a0 a1).bind fun a3 => (some (decide (a3 ≥ 0)))
theorem strings_ContainsAny.calls (a0 : ByteArray) (a1 : ByteArray) (r : Bool) (w : World) (h : strings_ContainsAny.f a0 a1 = some r) :
  Calls Tryz.prog 110 #[.string a0, .string a1] w fun e w' => e = .returned (.bool r) ∧ Below w.heap.size w w' := by
 have HB := am (Below.refl w.heap.size w)
 unfold strings_ContainsAny.f at h; have H := h; clear h
 replace H := bnd H; obtain ⟨a3, A3, H⟩ := H
 obtain rfl := smI H
 go_enter Tryz.func110, Tryz.ntmps110
 go_wp2_with (first | ((with_reducible refine gtC 130 ?_); refine xCb 7 Tryz.func130 (strings_IndexAny.calls a0 a1 a3 _ A3.out) fun w4 hb => ?_; replace HB := am (sTx HB.out hb)))
 go_ret
 exact ⟨rfF, eTx HB.out⟩

/-! ### version_word: function 93 -/
def version_word.j0 : Nat → ByteArray → Bool → Option (Bool)
 | 0, _, _ => none
 | k + 1, x0, x14 => if x14 = true then (some false) else ((number_May.f x0).bind fun a4 => (if a4 = true then (some true) else ((octet_All.f x0 (([1] : List Int))).bind fun aG => (some (!aG)))))
def version_word.f (k : Nat) (a0 : ByteArray) : Option (Bool) := if a0.toList = ([] : List UInt8) then (version_word.j0 k a0 true) else ((strings_ContainsAny.f a0 (⟨#[46, 95, 126]⟩ : ByteArray)).bind fun a5 => (if a5 = true then (version_word.j0 k a0 true) else ((octet_All.f a0 (([1, 2, 3] : List Int))).bind fun aF => (version_word.j0 k a0 (!aF)))))
theorem version_word.mono_l : ∀ k, (∀ y0 y1, LeO (version_word.j0 k y0 y1) (version_word.j0 (k + 1) y0 y1))
 | 0 => fun _ _ r h => by simp [version_word.j0] at h
 | k + 1 => by
  have ih0 := version_word.mono_l k
  ·intro y0 y1
   unfold version_word.j0
   repeat' first | (with_reducible first | apply ih0 | apply LeO.refl | apply LeO.none | apply LeO.ite | refine LeO.bind ?_ (fun _ => ?_)) | apply ih0 | exact LeO.none _ | refine LeO.ite ?_ ?_ | refine LeO.bind ?_ (fun _ => ?_)
theorem version_word.mono : ∀ a0 k, LeO (version_word.f k a0) (version_word.f (k + 1) a0) := by
 intro a0 k
 have ih0 := version_word.mono_l k
 unfold version_word.f
 repeat' first | (with_reducible first | apply ih0 | apply LeO.refl | apply LeO.none | apply LeO.ite | refine LeO.bind ?_ (fun _ => ?_)) | apply ih0 | exact LeO.none _ | refine LeO.ite ?_ ?_ | refine LeO.bind ?_ (fun _ => ?_)
theorem version_word.calls (k : Nat) (a0 : ByteArray) (r : Bool) (w : World) (h : version_word.f k a0 = some r) :
  Calls Tryz.prog 93 #[.string a0] w fun e w' => e = .returned (.bool r) ∧ Below w.heap.size w w' := by
 have HB := am (Below.refl w.heap.size w)
 unfold version_word.f at h; have H := h; clear h
 have HC2 := Aside0.mk H
 clear H
 go_enter Tryz.func93, Tryz.ntmps93
 go_upto_region 1 with (fail)
 go_cut [14] (fun v14 wc => ∃ (kq : Nat) (aV : Bool), v14 = .bool aV ∧ Aside0 (version_word.j0 kq a0 aV = some r) ∧ Aside0 (kq ≤ k) ∧ Aside0 (Below w.heap.size w wc))
 case first =>
  have H := HC2.out
  clear HC2
  replace H := ifP H; rcases H with ⟨c3, H⟩ | ⟨c3, H⟩
  ·have aQ := beq_iff_eq.mpr c3
   have bI := bne_eq_false_iff_eq.mpr c3
   clear c3
   (first | rw [aQ] | (simp only [i64_w, i32_w]; rw [aQ]) | skip)
   have H' := Aside0.mk H
   clear H
   go_wp2
   go_meet
   case rel => exact ⟨_, (true), rfG, H', ⟨rfO⟩, ⟨eTx HB.out⟩⟩
  ·have aQ := beq_eq_false_iff_ne.mpr c3
   have bI := bne_iff_ne.mpr c3
   (first | rw [aQ] | (simp only [i64_w, i32_w]; rw [aQ]) | skip)
   replace H := bnd H; obtain ⟨a5, A4, H⟩ := H
   replace H := ifB H; rcases H with ⟨rfl, H⟩ | ⟨rfl, H⟩
   ·have H' := Aside0.mk H
    clear H
    go_wp2_with (first | (go_at_call 110; (with_reducible refine (strings_ContainsAny.calls a0 (⟨#[46, 95, 126]⟩ : ByteArray) true _ A4.out).mono ?_); rintro e w6 ⟨rfl, hb⟩; replace HB := am (sTx HB.out hb)))
    go_meet
    case rel => exact ⟨_, (true), rfG, H', ⟨rfO⟩, ⟨eTx HB.out⟩⟩
   ·obtain ⟨bJ, aK⟩ : ∃ y_ : List Int, y_ = (([1, 2, 3] : List Int)) := ⟨_, rfl⟩
    replace H : ((octet_All.f a0 bJ).bind fun aF => (version_word.j0 k a0 (!aF))) = some r := by first | (rw [aK]; with_reducible exact H) | (have H2_ := (Option.bind_some _ _).symm.trans H; rw [aK]; with_reducible exact H2_) | (have H2_ := (Option.bind_some _ _).symm.trans H; with_reducible exact H2_) | with_reducible exact H | (rw [aK]; exact H) | exact H
    have Ny139 := Aside0.mk aK
    clear aK
    replace H := bnd H; obtain ⟨aF, A7, H⟩ := H
    have H' := Aside0.mk H
    clear H
    go_wp2_with (first | (go_at_call 110; (with_reducible refine (strings_ContainsAny.calls a0 (⟨#[46, 95, 126]⟩ : ByteArray) false _ A4.out).mono ?_); rintro e w8 ⟨rfl, hb⟩; replace HB := am (sTx HB.out hb)) | ((with_reducible refine gtD 11 ?_); (try (refine gate_guard (by rfl) ?_; dsimp only)); refine Kd.R_lit (Kd.int .i64) _ 3 ?hg (N := 11) ?hd (xs := ([1, 2, 3] : List Int)) (inner := [.int .i64 1, .int .i64 2, .int .i64 3]) (ok := fun _ => True) (okp := fun _ => True) ?hr ?hp (fun _ hk => hk) trivial (Below.refl _ _) (Nat.le_refl _) (by simp) ?_; (case hd => rfl); (case hg => rfl); (case hr => first | (go_simp; done) | (go_simp; rfl)); (case hp => exact (Reps.one (show Kd.M (Kd.int .i64) _ _ _ 1 [.int .i64 1] from rfl) (Reps.one (show Kd.M (Kd.int .i64) _ _ _ 2 [.int .i64 2] from rfl) (Reps.one (show Kd.M (Kd.int .i64) _ _ _ 3 [.int .i64 3] from rfl) (Reps.none _ _))))); intro dU w9 ho10 hb hg_ hnew_; clear hg_ hnew_; (first | rw [← Ny139.out] at ho10 | (simp only [Int.reduceToNat] at ho10; rw [← Ny139.out] at ho10)); have aL := am (Kd.R_lower ho10 (below_size (eTx HB.out))); replace HB := am (sTx HB.out hb); clear hb ho10; obtain ⟨dV, dW, dl⟩ := Kd.R_slice aL.out; subst dl) | (go_at_call 109; (with_reducible refine (octet_All.calls a0 _ _ bJ aF _ (cW (Kd.R_reads' aL.out).2.2) ((Kd.R_reads' aL.out).2.1) A7.out).mono ?_); rintro e w12 ⟨rfl, hb⟩; replace aL := am (rB aL.out hb); replace HB := am (sTx HB.out hb)))
    go_meet
    case rel => exact ⟨_, (!aF), rfG, H', ⟨rfO⟩, ⟨eTx HB.out⟩⟩
 case rest =>
  clear HC2
  obtain ⟨kq, aV, rfl, HA, HJ1, HB⟩ := hcut
  cases kq with
  | zero => exact absurd HA.out (by simp [version_word.j0])
  | succ kj1 =>
   have H := HA.out
   clear HA
   simp only [version_word.j0] at H
   replace H := ifB H; rcases H with ⟨rfl, H⟩ | ⟨rfl, H⟩
   ·obtain rfl := smI H
    go_wp2
    go_ret
    exact ⟨rfF, eTx HB.out⟩
   ·replace H := bnd H; obtain ⟨a4, A14, H⟩ := H
    replace H := ifB H; rcases H with ⟨rfl, H⟩ | ⟨rfl, H⟩
    ·obtain rfl := smI H
     go_wp2_with (first | ((with_reducible refine gtC 92 ?_); refine xCb 16 Tryz.func92 (number_May.calls a0 true _ A14.out) fun w16 hb => ?_; replace HB := am (sTx HB.out hb)))
     go_ret
     exact ⟨rfF, eTx HB.out⟩
    ·obtain ⟨bL, aM⟩ : ∃ y_ : List Int, y_ = (([1] : List Int)) := ⟨_, rfl⟩
     replace H : ((octet_All.f a0 bL).bind fun aG => (some (!aG))) = some r := by first | (rw [aM]; with_reducible exact H) | (have H2_ := (Option.bind_some _ _).symm.trans H; rw [aM]; with_reducible exact H2_) | (have H2_ := (Option.bind_some _ _).symm.trans H; with_reducible exact H2_) | with_reducible exact H | (rw [aM]; exact H) | exact H
     have Ny144 := Aside0.mk aM
     clear aM
     replace H := bnd H; obtain ⟨aG, A17, H⟩ := H
     obtain rfl := smI H
     go_wp2_with (first | ((with_reducible refine gtC 92 ?_); refine xCb 16 Tryz.func92 (number_May.calls a0 false _ A14.out) fun w18 hb => ?_; replace HB := am (sTx HB.out hb)) | ((with_reducible refine gtD 19 ?_); (try (refine gate_guard (by rfl) ?_; dsimp only)); refine Kd.R_lit (Kd.int .i64) _ 3 ?hg (N := 19) ?hd (xs := ([1] : List Int)) (inner := [.int .i64 1]) (ok := fun _ => True) (okp := fun _ => True) ?hr ?hp (fun _ hk => hk) trivial (Below.refl _ _) (Nat.le_refl _) (by simp) ?_; (case hd => rfl); (case hg => rfl); (case hr => first | (go_simp; done) | (go_simp; rfl)); (case hp => exact (Reps.one (show Kd.M (Kd.int .i64) _ _ _ 1 [.int .i64 1] from rfl) (Reps.none _ _))); intro dX w19 ho20 hb hg_ hnew_; clear hg_ hnew_; (first | rw [← Ny144.out] at ho20 | (simp only [Int.reduceToNat] at ho20; rw [← Ny144.out] at ho20)); have aN := am (Kd.R_lower ho20 (below_size (eTx HB.out))); replace HB := am (sTx HB.out hb); clear hb ho20; obtain ⟨dY, dZ, dm⟩ := Kd.R_slice aN.out; subst dm) | (go_at_call 109; (with_reducible refine (octet_All.calls a0 _ _ bL aG _ (cW (Kd.R_reads' aN.out).2.2) ((Kd.R_reads' aN.out).2.1) A17.out).mono ?_); rintro e w22 ⟨rfl, hb⟩; replace aN := am (rB aN.out hb); replace HB := am (sTx HB.out hb)))
     go_ret
     exact ⟨rfF, eTx HB.out⟩

/-! ### version_Split: function 65 -/
mutual
def version_Split.j0 : Nat → ByteArray → Bool → List ByteArray → Bool → Option (ByteArray × ByteArray × ByteArray × List ByteArray × Int)
 | 0, _, _, _, _ => none
 | k + 1, x5, x6, x7, x47 => if x47 = true then (some ((⟨#[]⟩ : ByteArray), (⟨#[]⟩ : ByteArray), (⟨#[]⟩ : ByteArray), ([] : List ByteArray), 1)) else (if 0 < (x7.length : Int) then (if 1 < (x7.length : Int) then (if 2 < (x7.length : Int) then (if x6 = true then ((octet_Parts.f x5 46).bind fun ai => (version_Split.l0 k ai (ai.length : Int) 0 (rdOf ByteArray.empty x7 0) (rdOf ByteArray.empty x7 1) (rdOf ByteArray.empty x7 2) ai)) else (some (rdOf ByteArray.empty x7 0, rdOf ByteArray.empty x7 1, rdOf ByteArray.empty x7 2, ([] : List ByteArray), 0))) else (none)) else (none)) else (none))
def version_Split.l0 : Nat → List ByteArray → Int → Int → ByteArray → ByteArray → ByteArray → List ByteArray → Option (ByteArray × ByteArray × ByteArray × List ByteArray × Int)
 | 0, _, _, _, _, _, _, _ => none
 | k + 1, x66, x67, x68, aW, aX, aY, aZ => if x68 < x67 then (if 0 ≤ x68 then (if x68 < (x66.length : Int) then ((version_word.f k (rdOf ByteArray.empty x66 x68)).bind fun a_ => (if a_ = true then (version_Split.l0 k x66 x67 (wrap64 (x68 + 1)) aW aX aY aZ) else (some ((⟨#[]⟩ : ByteArray), (⟨#[]⟩ : ByteArray), (⟨#[]⟩ : ByteArray), ([] : List ByteArray), 1)))) else (none)) else (none)) else (some (aW, aX, aY, aZ, 0))
end
def version_Split.f (k : Nat) (a0 : ByteArray) : Option (ByteArray × ByteArray × ByteArray × List ByteArray × Int) := (strings_HasPrefix.f a0 (⟨#[118]⟩ : ByteArray)).bind fun a6 => (if a6 = true then (if 1 ≤ (a0.size : Int) then ((strings_Cut.f (a0.extract 1 a0.size) (⟨#[45]⟩ : ByteArray)).bind fun bt150 => ((octet_Parts.f bt150.1 46).bind fun aa => (if (aa.length : Int) = 3 then (if 0 < (aa.length : Int) then ((number_May.f (rdOf ByteArray.empty aa 0)).bind fun aE => (if aE = true then (if 1 < (aa.length : Int) then ((number_May.f (rdOf ByteArray.empty aa 1)).bind fun aB => (if aB = true then (if 2 < (aa.length : Int) then ((number_May.f (rdOf ByteArray.empty aa 2)).bind fun ax => (version_Split.j0 k bt150.2.1 bt150.2.2 aa (!ax))) else (none)) else (version_Split.j0 k bt150.2.1 bt150.2.2 aa true))) else (none)) else (version_Split.j0 k bt150.2.1 bt150.2.2 aa true))) else (none)) else (version_Split.j0 k bt150.2.1 bt150.2.2 aa true)))) else (none)) else (some ((⟨#[]⟩ : ByteArray), (⟨#[]⟩ : ByteArray), (⟨#[]⟩ : ByteArray), ([] : List ByteArray), 1)))
theorem version_Split.mono_l : ∀ k, (∀ y0 y1 y2 y3, LeO (version_Split.j0 k y0 y1 y2 y3) (version_Split.j0 (k + 1) y0 y1 y2 y3)) ∧ (∀ y0 y1 y2 y3 y4 y5 y6, LeO (version_Split.l0 k y0 y1 y2 y3 y4 y5 y6) (version_Split.l0 (k + 1) y0 y1 y2 y3 y4 y5 y6))
 | 0 => ⟨fun _ _ _ _ r h => by simp [version_Split.j0] at h, fun _ _ _ _ _ _ _ r h => by simp [version_Split.l0] at h⟩
 | k + 1 => by
  obtain ⟨ih0, ih1⟩ := version_Split.mono_l k
  refine ⟨?_, ?_⟩
  ·intro y0 y1 y2 y3
   unfold version_Split.j0
   repeat' first | (with_reducible first | apply ih0 | apply ih1 | apply version_word.mono | apply LeO.refl | apply LeO.none | apply LeO.ite | refine LeO.bind ?_ (fun _ => ?_)) | apply ih0 | apply ih1 | apply version_word.mono | exact LeO.none _ | refine LeO.ite ?_ ?_ | refine LeO.bind ?_ (fun _ => ?_)
  ·intro y0 y1 y2 y3 y4 y5 y6
   unfold version_Split.l0
   repeat' first | (with_reducible first | apply ih0 | apply ih1 | apply version_word.mono | apply LeO.refl | apply LeO.none | apply LeO.ite | refine LeO.bind ?_ (fun _ => ?_)) | apply ih0 | apply ih1 | apply version_word.mono | exact LeO.none _ | refine LeO.ite ?_ ?_ | refine LeO.bind ?_ (fun _ => ?_)
theorem version_Split.mono : ∀ a0 k, LeO (version_Split.f k a0) (version_Split.f (k + 1) a0) := by
 intro a0 k
 obtain ⟨ih0, ih1⟩ := version_Split.mono_l k
 unfold version_Split.f
 repeat' first | (with_reducible first | apply ih0 | apply ih1 | apply version_word.mono | apply LeO.refl | apply LeO.none | apply LeO.ite | refine LeO.bind ?_ (fun _ => ?_)) | apply ih0 | apply ih1 | apply version_word.mono | exact LeO.none _ | refine LeO.ite ?_ ?_ | refine LeO.bind ?_ (fun _ => ?_)
def version_Split.T7 : Bool × List (List Nat × List Nat) := (true, [([], []), ([0], [0]), ([1], [1]), ([], []), ([3], [3]), ([4], [4]), ([], []), ([6], [6]), ([7], [7]), ([2, 5, 8], [2, 5, 8]), ([], []), ([10, 9, 0, 1, 2, 3, 4, 5, 6, 7, 8, 9, 10], [9, 10])])
def version_Split.B7 : List Nat := [0, 1, 3, 0, 8, 24, 0, 64, 192, 511, 0, 2047]
theorem version_Split.tab7 : rtab .any (opsOf Tryz.f65 7) = version_Split.T7 := by kernel_rfl
theorem version_Split.bits7 : waitsOk version_Split.T7.2 version_Split.B7 = true := by kernel_rfl
theorem version_Split.calls (k : Nat) (a0 : ByteArray) (r1 : ByteArray) (r2 : ByteArray) (r3 : ByteArray) (r4 : List ByteArray) (r5 : Int) (w : World) (h : version_Split.f k a0 = some (r1, r2, r3, r4, r5)) :
  Calls Tryz.prog 65 #[.string a0] w fun e w' => ∃ v3_ : Value, e = .returned (.tuple #[.agg #[.string r1, .string r2, .string r3, v3_], .int .i64 r5]) ∧ Kd.R Kd.string 9 w' w.heap.size (fun _ => True) v3_ r4 ∧ Below w.heap.size w w' := by
 have hu98 := Tryz.underlying98
 have HB := am (Below.refl w.heap.size w)
 unfold version_Split.f at h; have H := h; clear h
 replace H := bnd H; obtain ⟨a6, A2, H⟩ := H
 replace H := ifB H; rcases H with ⟨rfl, H⟩ | ⟨rfl, H⟩
 ·replace H := ifN H; obtain ⟨c4, H⟩ := H
  have bF := eq_true c4
  have bN := decide_eq_true c4
  clear c4
  replace H := bnd H; obtain ⟨⟨bb, av, ay⟩, A5, H⟩ := H
  (try dsimp only at H)
  replace H := bnd H; obtain ⟨aa, A6, H⟩ := H
  have HC7 := Aside0.mk H
  clear H
  go_enter Tryz.func65, Tryz.ntmps65
  go_upto_region 5 with (first | ((with_reducible refine gtD 2 ?_); refine xBx 2 98 #[.string (⟨#[]⟩ : ByteArray), .string (⟨#[]⟩ : ByteArray), .string (⟨#[]⟩ : ByteArray), .slice none 0 0] ?_; intro ag hg w8 hbox hb; have ac := am (hbox); have bO := am ((gTx hg HB.out)); have bP := am ((gTx hg HB.out)); replace HB := am (sTx HB.out hb); clear hb hbox hg) | ((with_reducible refine gtC 90 ?_); refine xCz 12 Tryz.func90 (strings_HasPrefix.calls a0 (⟨#[118]⟩ : ByteArray) true _ A2.out) fun nd => ?_) | ((with_reducible refine gtC 91 ?_); refine xCz 18 Tryz.func91 (strings_Cut.calls (a0.extract 1 a0.size) (⟨#[45]⟩ : ByteArray) bb av ay _ A5.out) fun nd => ?_) | ((with_reducible refine gtC 88 ?_); refine xCl 23 Tryz.func88 (octet_Parts.calls bb 46 aa _ A6.out) ?_; rintro e w9 ⟨dn, rfl, ho0, hb⟩; refine ⟨_, rfl, ?_⟩; have ak := am (Kd.R_lower ho0 (below_size (eTx HB.out))); replace ac := am (bB ac.out hb); replace HB := am (sTx HB.out hb)))
  (try simp only [Act.put, List.setIfInBounds_toArray, List.set_cons_zero, List.set_cons_succ])
  go_cut [47] (fun v47 wc => ∃ (kq : Nat) (a2 : Bool), v47 = .bool a2 ∧ Aside0 (version_Split.j0 kq av ay aa a2 = some (r1, r2, r3, r4, r5)) ∧ Aside0 (kq ≤ k) ∧ Aside0 (Kd.R Kd.string 9 wc w.heap.size (fun _ => True) dn aa) ∧ Aside0 (wc.heap[ag]? = some (.cells #[.string (⟨#[]⟩ : ByteArray), .string (⟨#[]⟩ : ByteArray), .string (⟨#[]⟩ : ByteArray), (.slice none 0 0)] 98 (0, 0))) ∧ Aside0 (Below w.heap.size w wc))
  case first =>
   have H := HC7.out
   clear HC7
   replace H := ifP H; rcases H with ⟨c10, H⟩ | ⟨c10, H⟩
   ·have aI := beq_iff_eq.mpr c10
    have a8 := bne_eq_false_iff_eq.mpr c10
    clear c10
    (first | rw [aI] | (simp only [i64_w, i32_w]; rw [aI]) | skip)
    replace H := ifN H; obtain ⟨c11, H⟩ := H
    have bw := decide_eq_true c11
    have bx : decide (0 < aa.length) = true := decide_eq_true (by omega)
    clear c11
    replace H := bnd H; obtain ⟨aE, A12, H⟩ := H
    replace H := ifB H; rcases H with ⟨rfl, H⟩ | ⟨rfl, H⟩
    ·replace H := ifN H; obtain ⟨c14, H⟩ := H
     have bz := decide_eq_true c14
     have bC : decide (1 < aa.length) = true := decide_eq_true (by omega)
     clear c14
     replace H := bnd H; obtain ⟨aB, A15, H⟩ := H
     replace H := ifB H; rcases H with ⟨rfl, H⟩ | ⟨rfl, H⟩
     ·replace H := ifN H; obtain ⟨c17, H⟩ := H
      have bD := decide_eq_true c17
      have bE : decide (2 < aa.length) = true := decide_eq_true (by omega)
      clear c17
      replace H := bnd H; obtain ⟨ax, A18, H⟩ := H
      have H' := Aside0.mk H
      clear H
      obtain ⟨d0, d1, dp⟩ := Kd.R_slice ak.out
      subst dp
      have p156 : 0 ≤ (0 : Int) := (by omega)
      have q156 : 0 < (aa.length : Int) := of_decide_eq_true rfA
      obtain ⟨ad156, e156, ap⟩ := Kd.at_string (Kd.R_reads' ak.out).2.2 0 p156 q156
      cases e156
      have qi156 : (0 < aa.length) = True := eq_true (by omega)
      (try rw [show ((0 : Int)).toNat = 0 from rfl] at ap)
      (try rw [Addr.add_zero'] at ap)
      replace p156 := eq_true p156
      replace q156 := eq_true q156
      go_wp2_with (first | (go_at_call 92; (with_reducible refine (number_May.calls (rdOf ByteArray.empty aa 0) true _ A12.out).mono ?_); rintro e w20 ⟨rfl, hb⟩; replace ak := am (rB ak.out hb); replace ac := am (bB ac.out hb); replace HB := am (sTx HB.out hb); have p158 : 0 ≤ (1 : Int) := (by omega); have q158 : 1 < (aa.length : Int) := of_decide_eq_true rfA; obtain ⟨ad158, e158, aA⟩ := Kd.at_string (Kd.R_reads' ak.out).2.2 1 p158 q158; obtain rfl : ad156 = ad158 := (by injection e158); (try simp only [show (1 : Int).toNat = 1 from rfl, Nat.reduceMul, Nat.reduceEqDiff, Go.Addr.add, ↓reduceIte] at aA); have qi158 : (1 < aa.length) = True := eq_true (by omega); (try rw [show ((1 : Int)).toNat = 1 from rfl] at aA); replace p158 := eq_true p158; replace q158 := eq_true q158) | (go_at_call 92; (with_reducible refine (number_May.calls (rdOf ByteArray.empty aa 1) true _ A15.out).mono ?_); rintro e w21 ⟨rfl, hb⟩; replace ak := am (rB ak.out hb); replace ac := am (bB ac.out hb); replace HB := am (sTx HB.out hb); have p160 : 0 ≤ (2 : Int) := (by omega); have q160 : 2 < (aa.length : Int) := of_decide_eq_true rfA; obtain ⟨ad160, e160, aH⟩ := Kd.at_string (Kd.R_reads' ak.out).2.2 2 p160 q160; obtain rfl : ad156 = ad160 := (by injection e160); (try simp only [show (2 : Int).toNat = 2 from rfl, Nat.reduceMul, Nat.reduceEqDiff, Go.Addr.add, ↓reduceIte] at aH); have qi160 : (2 < aa.length) = True := eq_true (by omega); (try rw [show ((2 : Int)).toNat = 2 from rfl] at aH); replace p160 := eq_true p160; replace q160 := eq_true q160) | (go_at_call 92; (with_reducible refine (number_May.calls (rdOf ByteArray.empty aa 2) ax _ A18.out).mono ?_); rintro e w22 ⟨rfl, hb⟩; replace ak := am (rB ak.out hb); replace ac := am (bB ac.out hb); replace HB := am (sTx HB.out hb)))
      go_meet
      case rel => exact ⟨_, (!ax), rfG, H', ⟨rfO⟩, ⟨rT ak.out⟩, ⟨bT ac.out⟩, ⟨eTx HB.out⟩⟩
     ·have H' := Aside0.mk H
      clear H
      obtain ⟨d2, d3, dq⟩ := Kd.R_slice ak.out
      subst dq
      have p156 : 0 ≤ (0 : Int) := (by omega)
      have q156 : 0 < (aa.length : Int) := of_decide_eq_true rfA
      obtain ⟨ad156, e156, ap⟩ := Kd.at_string (Kd.R_reads' ak.out).2.2 0 p156 q156
      cases e156
      have qi156 : (0 < aa.length) = True := eq_true (by omega)
      (try rw [show ((0 : Int)).toNat = 0 from rfl] at ap)
      (try rw [Addr.add_zero'] at ap)
      replace p156 := eq_true p156
      replace q156 := eq_true q156
      go_wp2_with (first | (go_at_call 92; (with_reducible refine (number_May.calls (rdOf ByteArray.empty aa 0) true _ A12.out).mono ?_); rintro e w24 ⟨rfl, hb⟩; replace ak := am (rB ak.out hb); replace ac := am (bB ac.out hb); replace HB := am (sTx HB.out hb); have p158 : 0 ≤ (1 : Int) := (by omega); have q158 : 1 < (aa.length : Int) := of_decide_eq_true rfA; obtain ⟨ad158, e158, aA⟩ := Kd.at_string (Kd.R_reads' ak.out).2.2 1 p158 q158; obtain rfl : ad156 = ad158 := (by injection e158); (try simp only [show (1 : Int).toNat = 1 from rfl, Nat.reduceMul, Nat.reduceEqDiff, Go.Addr.add, ↓reduceIte] at aA); have qi158 : (1 < aa.length) = True := eq_true (by omega); (try rw [show ((1 : Int)).toNat = 1 from rfl] at aA); replace p158 := eq_true p158; replace q158 := eq_true q158) | (go_at_call 92; (with_reducible refine (number_May.calls (rdOf ByteArray.empty aa 1) false _ A15.out).mono ?_); rintro e w25 ⟨rfl, hb⟩; replace ak := am (rB ak.out hb); replace ac := am (bB ac.out hb); replace HB := am (sTx HB.out hb)))
      go_meet
      case rel => exact ⟨_, (true), rfG, H', ⟨rfO⟩, ⟨rT ak.out⟩, ⟨bT ac.out⟩, ⟨eTx HB.out⟩⟩
    ·have H' := Aside0.mk H
     clear H
     obtain ⟨d4, d5, dr⟩ := Kd.R_slice ak.out
     subst dr
     have p156 : 0 ≤ (0 : Int) := (by omega)
     have q156 : 0 < (aa.length : Int) := of_decide_eq_true rfA
     obtain ⟨ad156, e156, ap⟩ := Kd.at_string (Kd.R_reads' ak.out).2.2 0 p156 q156
     cases e156
     have qi156 : (0 < aa.length) = True := eq_true (by omega)
     (try rw [show ((0 : Int)).toNat = 0 from rfl] at ap)
     (try rw [Addr.add_zero'] at ap)
     replace p156 := eq_true p156
     replace q156 := eq_true q156
     go_wp2_with (first | (go_at_call 92; (with_reducible refine (number_May.calls (rdOf ByteArray.empty aa 0) false _ A12.out).mono ?_); rintro e w27 ⟨rfl, hb⟩; replace ak := am (rB ak.out hb); replace ac := am (bB ac.out hb); replace HB := am (sTx HB.out hb)))
     go_meet
     case rel => exact ⟨_, (true), rfG, H', ⟨rfO⟩, ⟨rT ak.out⟩, ⟨bT ac.out⟩, ⟨eTx HB.out⟩⟩
   ·have aI := beq_eq_false_iff_ne.mpr c10
    have a8 := bne_iff_ne.mpr c10
    (first | rw [aI] | (simp only [i64_w, i32_w]; rw [aI]) | skip)
    have H' := Aside0.mk H
    clear H
    obtain ⟨d6, d7, dt⟩ := Kd.R_slice ak.out
    subst dt
    go_wp2
    go_meet
    case rel => exact ⟨_, (true), rfG, H', ⟨rfO⟩, ⟨rT ak.out⟩, ⟨bT ac.out⟩, ⟨eTx HB.out⟩⟩
  case rest =>
   clear HC7
   obtain ⟨kq, a2, rfl, HA, HJ6, ad, ac, HB⟩ := hcut
   cases kq with
   | zero => exact absurd HA.out (by simp [version_Split.j0])
   | succ kj6 =>
    have H := HA.out
    clear HA
    simp only [version_Split.j0] at H
    replace H := ifB H; rcases H with ⟨rfl, H⟩ | ⟨rfl, H⟩
    ·simp only [Option.some.injEq, Prod.mk.injEq] at H
     obtain ⟨rfl, rfl, rfl, rfl, rfl⟩ := H
     obtain ⟨bc, be, bf, bg, bh, bi, bj, bk⟩ := bxD ac
     go_wp2
     refine bodyPost_ret (results_ct rfl _ _ ag 98 #[.string (⟨#[]⟩ : ByteArray), .string (⟨#[]⟩ : ByteArray), .string (⟨#[]⟩ : ByteArray), .slice none 0 0] (0, 0) _ rfl kBk Tryz.underlying98 rfl rfK) rfl ?_
     exact ⟨_, rfF, rfM, eTx HB.out⟩
    ·replace H := ifN H; obtain ⟨c31, H⟩ := H
     have bU := decide_eq_true c31
     have bV : decide (0 < aa.length) = true := decide_eq_true (by omega)
     clear c31
     replace H := ifN H; obtain ⟨c32, H⟩ := H
     have bW := decide_eq_true c32
     have bX : decide (1 < aa.length) = true := decide_eq_true (by omega)
     clear c32
     replace H := ifN H; obtain ⟨c33, H⟩ := H
     have bZ := decide_eq_true c33
     have b0 : decide (2 < aa.length) = true := decide_eq_true (by omega)
     clear c33
     replace H := ifB H; rcases H with ⟨rfl, H⟩ | ⟨rfl, H⟩
     ·replace H := bnd H; obtain ⟨ai, A35, H⟩ := H
      have H' := Aside0.mk H
      clear H
      try go_wp2
      replace ad := am (Kd.R_drew ad.out)
      replace ac := am (blk_drew ac.out)
      replace HB := am (below_drew1 HB.out)
      obtain ⟨d8, d9, b2⟩ := Kd.R_slice ad.out
      (first | subst b2 | (injection b2 with f1_ f2_ f3_; have f4_ := f1_.symm; have f5_ := f3_.symm; clear f1_ f2_ f3_; subst f4_; subst f5_))
      have p162 : 0 ≤ (0 : Int) := (by omega)
      have q162 : 0 < (aa.length : Int) := of_decide_eq_true rfA
      obtain ⟨ad162, e162, aq⟩ := Kd.at_string (Kd.R_reads' ad.out).2.2 0 p162 q162
      cases e162
      have qi162 : (0 < aa.length) = True := eq_true (by omega)
      (try rw [show ((0 : Int)).toNat = 0 from rfl] at aq)
      (try rw [Addr.add_zero'] at aq)
      replace p162 := eq_true p162
      replace q162 := eq_true q162
      have p163 : 0 ≤ (1 : Int) := (by omega)
      have q163 : 1 < (aa.length : Int) := of_decide_eq_true rfA
      obtain ⟨ad163, e163, ar⟩ := Kd.at_string (Kd.R_reads' ad.out).2.2 1 p163 q163
      obtain rfl : ad162 = ad163 := (by injection e163)
      (try simp only [show (1 : Int).toNat = 1 from rfl, Nat.reduceMul, Nat.reduceEqDiff, Go.Addr.add, ↓reduceIte] at ar)
      have qi163 : (1 < aa.length) = True := eq_true (by omega)
      (try rw [show ((1 : Int)).toNat = 1 from rfl] at ar)
      replace p163 := eq_true p163
      replace q163 := eq_true q163
      have p164 : 0 ≤ (2 : Int) := (by omega)
      have q164 : 2 < (aa.length : Int) := of_decide_eq_true rfA
      obtain ⟨ad164, e164, au⟩ := Kd.at_string (Kd.R_reads' ad.out).2.2 2 p164 q164
      obtain rfl : ad162 = ad164 := (by injection e164)
      (try simp only [show (2 : Int).toNat = 2 from rfl, Nat.reduceMul, Nat.reduceEqDiff, Go.Addr.add, ↓reduceIte] at au)
      have qi164 : (2 < aa.length) = True := eq_true (by omega)
      (try rw [show ((2 : Int)).toNat = 2 from rfl] at au)
      replace p164 := eq_true p164
      replace q164 := eq_true q164
      refine start_ (n := 12) (S := fun w' => w'.cell? ad162 = some (.string (rdOf ByteArray.empty aa 0)) ∧ w'.cell? ⟨ad162.block, ad162.off + 1, none⟩ = some (.string (rdOf ByteArray.empty aa 1)) ∧ w'.cell? ⟨ad162.block, ad162.off + 2, none⟩ = some (.string (rdOf ByteArray.empty aa 2))) (ds := []) (bA 12 0) rfK rfl rfK ⟨aq, ar, au⟩ (fun hHeld => ?_); refine with_tabW version_Split.tab7 version_Split.bits7 (fun HT_ HW_ => ?_)
      generalize wc.drew = w36 at ad ac HB aq ar au hHeld ⊢
      refine pT 0 49 (bA 12 1) HT_.out ?_
      refine pT 1 50 (bA 12 3) HT_.out ?_
      refine pT 3 52 (bA 12 11) HT_.out ?_
      refine pT 4 53 (bA 12 27) HT_.out ?_
      refine pT 6 55 (bA 12 91) HT_.out ?_
      refine pT 7 56 (bA 12 219) HT_.out ?_
      refine tT 2 51 (bA 12 223) HT_.out HW_.out hHeld ?_ (hy := by rintro w' ⟨s0, s1, s2⟩; go_simp; with_reducible rfl)
      refine tT 5 54 (bA 12 255) HT_.out HW_.out hHeld ?_ (hy := by rintro w' ⟨s0, s1, s2⟩; go_simp; with_reducible rfl)
      refine tT 8 57 (bA 12 511) HT_.out HW_.out hHeld ?_ (hy := by rintro w' ⟨s0, s1, s2⟩; go_simp; with_reducible rfl)
      refine pT 9 58 (bA 12 1023) HT_.out ?_
      refine oT 10 (bA 12 2047) HT_.out fun K hK => ?_
      refine yBx 8 98 #[.string (⟨#[]⟩ : ByteArray), .string (⟨#[]⟩ : ByteArray), .string (⟨#[]⟩ : ByteArray), .slice none 0 0] ?_
      intro ae hg w38 hbox hb
      have HS0_ := (hb.cell (World.block_lt_of_cell? _ _ (hHeld.1))).trans (hHeld.1)
      have HS1_ := (hb.cell (World.block_lt_of_cell? _ _ (hHeld.2.1))).trans (hHeld.2.1)
      have HS2_ := (hb.cell (World.block_lt_of_cell? _ _ (hHeld.2.2))).trans (hHeld.2.2)
      replace ad := am (rB ad.out hb)
      have ab := am (hbox)
      have b3 := am ((gTx hg HB.out))
      have b4 := am ((gTx hg HB.out))
      have af := am ((nT ac.out hg))
      have ah := am ((mT ac.out hg))
      replace ac := am (bB ac.out hb)
      replace HB := am (sTx HB.out hb)
      clear hb hbox hg
      refine hK.out _ _ ⟨HS0_, HS1_, HS2_⟩ (fun hHeld => ?_)
      clear hK K
      refine mN 8 ?_
      refine oT 11 (bA 12 4095) HT_.out fun K hK => ?_
      obtain ⟨d_, dA⟩ := bxA ab
      have b8 := af.out
      have b9 := ah.out
      have ea : w38.cell? ⟨ae, 1, none⟩ = some (.string (⟨#[]⟩ : ByteArray)) := cT ab 1
      have dB := blk_frozen ab.out 1
      have b_ := af.out
      have ca := ah.out
      have eb : w38.cell? ⟨ae, 2, none⟩ = some (.string (⟨#[]⟩ : ByteArray)) := cT ab 2
      have dC := blk_frozen ab.out 2
      have cb := af.out
      have cc := ah.out
      have ec : w38.cell? ⟨ae, 3, none⟩ = some (.slice none 0 0) := cT ab 3
      have dD := blk_frozen ab.out 3
      have cd := af.out
      have ce := ah.out
      refine skip_ (w1 := ?_) (by rfl) rfl ?_ ?_
      rotate_left
      ·go_simp
       rfl
      refine hK.out _ _ kCl (fun hHeld => ?_)
      clear hK K
      refine done_ (done_of HT_.out rfK) ?_
      try go_wp2_with (first | ((with_reducible refine gtC 88 ?_); refine xCl 63 Tryz.func88 (octet_Parts.calls av 46 ai _ A35.out) ?_; rintro e w43 ⟨ed, rfl, ho0, hb⟩; refine ⟨_, rfl, ?_⟩; have a9 := am (Kd.R_lower (Kd.R_new' ho0 (Kd.R_lt (by (with_reducible repeat (first | apply Kd.R_alloc | apply Kd.R_drewN | apply Kd.R_drew)); exact (Kd.R_mono (Kd.R_far (p := ⟨ae, 3, none⟩) (Kd.R_far (p := ⟨ae, 2, none⟩) (Kd.R_far (p := ⟨ae, 1, none⟩) (Kd.R_far (p := ⟨ae, 0, none⟩) (Kd.R_types ad.out ab.out (by decide)) (fun _ hk => hk.2) (.string (rdOf ByteArray.empty aa 0))) (fun _ hk => hk.2) (.string (rdOf ByteArray.empty aa 1))) (fun _ hk => hk.2) (.string (rdOf ByteArray.empty aa 2))) (fun _ hk => hk.2) (.slice none 0 0)) (fun _ h_ => h_.1))))) (below_size (eTx HB.out))); replace ac := am (blk_below (g := ag) (o := .cells #[.string (⟨#[]⟩ : ByteArray), .string (⟨#[]⟩ : ByteArray), .string (⟨#[]⟩ : ByteArray), .slice none 0 0] 98 (0, 0)) kBk hb); replace ad := am (Kd.R_elder' (by (with_reducible repeat (first | apply Kd.R_alloc | apply Kd.R_drewN | apply Kd.R_drew)); exact (Kd.R_mono (Kd.R_far (p := ⟨ae, 3, none⟩) (Kd.R_far (p := ⟨ae, 2, none⟩) (Kd.R_far (p := ⟨ae, 1, none⟩) (Kd.R_far (p := ⟨ae, 0, none⟩) (Kd.R_types ad.out ab.out (by decide)) (fun _ hk => hk.2) (.string (rdOf ByteArray.empty aa 0))) (fun _ hk => hk.2) (.string (rdOf ByteArray.empty aa 1))) (fun _ hk => hk.2) (.string (rdOf ByteArray.empty aa 2))) (fun _ hk => hk.2) (.slice none 0 0)) (fun _ h_ => h_.1))) (Kd.R_base ho0) hb); replace HB := am (sTx HB.out hb); replace ab := am (blk_below (g := ae) (o := .cells #[.string (rdOf ByteArray.empty aa 0), .string (rdOf ByteArray.empty aa 1), .string (rdOf ByteArray.empty aa 2), .slice none 0 0] 98 (0, 0)) kBk hb); obtain ⟨aO, aP, dw⟩ := Kd.R_slice a9.out; subst dw; have dE := ah.out; have dF := af.out; obtain ⟨bl, bm, bo, bp, bq, br, bs, bt⟩ := bxD ab))
      go_loopg [68] kj6 (fun kq v68 w' => ∃ (al : Int) (ao : ByteArray) (an : ByteArray) (aj : ByteArray), v68 = .int .i64 al ∧ Aside0 (version_Split.l0 kq ai (ai.length : Int) al (rdOf ByteArray.empty aa 0) (rdOf ByteArray.empty aa 1) (rdOf ByteArray.empty aa 2) ai = some (r1, r2, r3, r4, r5)) ∧ Aside0 (kq ≤ kj6) ∧ Aside0 (Kd.R Kd.string 9 w' w.heap.size (fun _ => True) (.slice aO ai.length aP) ai) ∧ Aside0 (Kd.R Kd.string 9 w' w.heap.size (fun _ => True) (.slice aO ai.length aP) ai) ∧ Aside0 (w'.heap[ag]? = some (.cells #[.string ao, .string an, .string aj, (.slice none 0 0)] 98 (0, 0))) ∧ Aside0 (w'.heap[ae]? = some (.cells #[.string (rdOf ByteArray.empty aa 0), .string (rdOf ByteArray.empty aa 1), .string (rdOf ByteArray.empty aa 2), (.slice aO ai.length aP)] 98 (0, 0))) ∧ Aside0 (Below w.heap.size w w'))
      case atStart => exact ⟨(0), ((⟨#[]⟩ : ByteArray)), ((⟨#[]⟩ : ByteArray)), ((⟨#[]⟩ : ByteArray)), rfG, H', ⟨Nat.le_refl _⟩, ⟨by (with_reducible repeat (first | apply Kd.R_alloc | apply Kd.R_drewN | apply Kd.R_drew)); exact Kd.R_mono (Kd.R_far (p := ⟨ae, 3, none⟩) (Kd.R_types a9.out ab.out (by decide)) (fun _ hk => hk.2) (.slice aO ai.length aP)) (fun _ hk => trivial)⟩, ⟨by (with_reducible repeat (first | apply Kd.R_alloc | apply Kd.R_drewN | apply Kd.R_drew)); exact Kd.R_mono (Kd.R_far (p := ⟨ae, 3, none⟩) (Kd.R_types a9.out ab.out (by decide)) (fun _ hk => hk.2) (.slice aO ai.length aP)) (fun _ hk => trivial)⟩, ⟨kBk⟩, ⟨kBk⟩, ⟨eTx HB.out⟩⟩
      case round =>
       clear H'
       obtain ⟨al, ao, an, aj, rfl, HA, HK2, aJ, aw, ac, ab, HB⟩ := hrel
       cases gk with
       | zero => exact absurd HA.out (by simp [version_Split.l0])
       | succ k2 =>
        have H := HA.out
        clear HA
        simp only [version_Split.l0] at H
        replace H := ifP H; rcases H with ⟨c47, H⟩ | ⟨c47, H⟩
        ·have b5 := decide_eq_true c47
         clear c47
         replace H := ifN H; obtain ⟨c48, H⟩ := H
         have dG := decide_eq_true c48
         clear c48
         replace H := ifN H; obtain ⟨c49, H⟩ := H
         have dH := decide_eq_true c49
         clear c49
         replace H := bnd H; obtain ⟨a_, A50, H⟩ := H
         replace H := ifB H; rcases H with ⟨rfl, H⟩ | ⟨rfl, H⟩
         ·have H' := Aside0.mk H
          clear H
          have p169 : 0 ≤ (al : Int) := of_decide_eq_true rfA
          have q169 : al < (ai.length : Int) := of_decide_eq_true rfA
          obtain ⟨ad169, e169, bu⟩ := Kd.at_string (Kd.R_reads' aJ.out).2.2 al p169 q169
          cases e169
          replace p169 := eq_true p169
          replace q169 := eq_true q169
          go_wp2_with (first | ((with_reducible refine gtC 93 ?_); refine xCb 73 Tryz.func93 (version_word.calls k2 (rdOf ByteArray.empty ai al) true _ A50.out) fun w52 hb => ?_; replace aJ := am (rB aJ.out hb); replace aw := am (rB aw.out hb); replace ac := am (bB ac.out hb); replace ab := am (bB ab.out hb); replace HB := am (sTx HB.out hb)))
          go_roundg k2
          case measure => have := HJ6.out; have := HK2.out; omega
          case rel => exact ⟨(wrap64 (al + 1)), (ao), (an), (aj), rfG, H', ⟨by have := HJ6.out; have := HK2.out; omega⟩, ⟨rT aJ.out⟩, ⟨rT aw.out⟩, ⟨bT ac.out⟩, ⟨bT ab.out⟩, ⟨eTx HB.out⟩⟩
         ·simp only [Option.some.injEq, Prod.mk.injEq] at H
          obtain ⟨rfl, rfl, rfl, rfl, rfl⟩ := H
          have p169 : 0 ≤ (al : Int) := of_decide_eq_true rfA
          have q169 : al < (ai.length : Int) := of_decide_eq_true rfA
          obtain ⟨ad169, e169, bu⟩ := Kd.at_string (Kd.R_reads' aJ.out).2.2 al p169 q169
          cases e169
          replace p169 := eq_true p169
          replace q169 := eq_true q169
          go_wp2_with (first | ((with_reducible refine gtC 93 ?_); refine xCb 73 Tryz.func93 (version_word.calls k2 (rdOf ByteArray.empty ai al) false _ A50.out) fun w53 hb => ?_; replace aJ := am (rB aJ.out hb); replace aw := am (rB aw.out hb); replace ac := am (bB ac.out hb); replace ab := am (bB ab.out hb); replace HB := am (sTx HB.out hb); have dI := af.out; have dJ := ah.out; obtain ⟨cf, cg, ch, ci, cj, ck, cl, cm⟩ := bxD ac))
          refine bodyPost_ret (results_ct rfl _ _ ag 98 #[.string (⟨#[]⟩ : ByteArray), .string (⟨#[]⟩ : ByteArray), .string (⟨#[]⟩ : ByteArray), .slice none 0 0] (0, 0) _ rfl kBk Tryz.underlying98 rfl rfK) rfl ?_
          exact ⟨_, rfF, rfM, eTx HB.out⟩
        ·have b5 := decide_eq_false c47
         clear c47
         simp only [Option.some.injEq, Prod.mk.injEq] at H
         obtain ⟨rfl, rfl, rfl, rfl, rfl⟩ := H
         have dK := ah.out
         have dL := af.out
         obtain ⟨cn, co, cp, cq, cr, ct, cu, cv⟩ := bxD ab
         obtain ⟨cw, cx, cy, cz, cA, cB, cC, cD⟩ := bxD ac
         go_wp2
         refine bodyPost_ret (results_ct rfl _ _ ag 98 #[.string (rdOf ByteArray.empty aa 0), .string (rdOf ByteArray.empty aa 1), .string (rdOf ByteArray.empty aa 2), .slice aO ai.length aP] (0, 0) _ rfl kBk Tryz.underlying98 rfl rfK) rfl ?_
         exact ⟨_, rfF, by (with_reducible repeat (first | apply Kd.R_alloc | apply Kd.R_drewN | apply Kd.R_drew)); exact Kd.R_mono (Kd.R_far (p := ⟨ag, 3, none⟩) (Kd.R_far (p := ⟨ag, 2, none⟩) (Kd.R_far (p := ⟨ag, 1, none⟩) (Kd.R_far (p := ⟨ag, 0, none⟩) (Kd.R_types aw.out ac.out (by decide)) (fun _ hk => hk.2) (.string (rdOf ByteArray.empty aa 0))) (fun _ hk => hk.2) (.string (rdOf ByteArray.empty aa 1))) (fun _ hk => hk.2) (.string (rdOf ByteArray.empty aa 2))) (fun _ hk => hk.2) (.slice aO ai.length aP)) (fun _ hk => trivial), eTx HB.out⟩
     ·simp only [Option.some.injEq, Prod.mk.injEq] at H
      obtain ⟨rfl, rfl, rfl, rfl, rfl⟩ := H
      try go_wp2
      replace ad := am (Kd.R_drew ad.out)
      replace ac := am (blk_drew ac.out)
      replace HB := am (below_drew1 HB.out)
      obtain ⟨ee, ef, b7⟩ := Kd.R_slice ad.out
      (first | subst b7 | (injection b7 with f1_ f2_ f3_; have f4_ := f1_.symm; have f5_ := f3_.symm; clear f1_ f2_ f3_; subst f4_; subst f5_))
      have p162 : 0 ≤ (0 : Int) := (by omega)
      have q162 : 0 < (aa.length : Int) := of_decide_eq_true rfA
      obtain ⟨ad162, e162, aq⟩ := Kd.at_string (Kd.R_reads' ad.out).2.2 0 p162 q162
      cases e162
      have qi162 : (0 < aa.length) = True := eq_true (by omega)
      (try rw [show ((0 : Int)).toNat = 0 from rfl] at aq)
      (try rw [Addr.add_zero'] at aq)
      replace p162 := eq_true p162
      replace q162 := eq_true q162
      have p163 : 0 ≤ (1 : Int) := (by omega)
      have q163 : 1 < (aa.length : Int) := of_decide_eq_true rfA
      obtain ⟨ad163, e163, ar⟩ := Kd.at_string (Kd.R_reads' ad.out).2.2 1 p163 q163
      obtain rfl : ad162 = ad163 := (by injection e163)
      (try simp only [show (1 : Int).toNat = 1 from rfl, Nat.reduceMul, Nat.reduceEqDiff, Go.Addr.add, ↓reduceIte] at ar)
      have qi163 : (1 < aa.length) = True := eq_true (by omega)
      (try rw [show ((1 : Int)).toNat = 1 from rfl] at ar)
      replace p163 := eq_true p163
      replace q163 := eq_true q163
      have p164 : 0 ≤ (2 : Int) := (by omega)
      have q164 : 2 < (aa.length : Int) := of_decide_eq_true rfA
      obtain ⟨ad164, e164, au⟩ := Kd.at_string (Kd.R_reads' ad.out).2.2 2 p164 q164
      obtain rfl : ad162 = ad164 := (by injection e164)
      (try simp only [show (2 : Int).toNat = 2 from rfl, Nat.reduceMul, Nat.reduceEqDiff, Go.Addr.add, ↓reduceIte] at au)
      have qi164 : (2 < aa.length) = True := eq_true (by omega)
      (try rw [show ((2 : Int)).toNat = 2 from rfl] at au)
      replace p164 := eq_true p164
      replace q164 := eq_true q164
      refine start_ (n := 12) (S := fun w' => w'.cell? ad162 = some (.string (rdOf ByteArray.empty aa 0)) ∧ w'.cell? ⟨ad162.block, ad162.off + 1, none⟩ = some (.string (rdOf ByteArray.empty aa 1)) ∧ w'.cell? ⟨ad162.block, ad162.off + 2, none⟩ = some (.string (rdOf ByteArray.empty aa 2))) (ds := []) (bA 12 0) rfK rfl rfK ⟨aq, ar, au⟩ (fun hHeld => ?_); refine with_tabW version_Split.tab7 version_Split.bits7 (fun HT_ HW_ => ?_)
      generalize wc.drew = w59 at ad ac HB aq ar au hHeld ⊢
      refine pT 0 49 (bA 12 1) HT_.out ?_
      refine pT 1 50 (bA 12 3) HT_.out ?_
      refine pT 3 52 (bA 12 11) HT_.out ?_
      refine pT 4 53 (bA 12 27) HT_.out ?_
      refine pT 6 55 (bA 12 91) HT_.out ?_
      refine pT 7 56 (bA 12 219) HT_.out ?_
      refine tT 2 51 (bA 12 223) HT_.out HW_.out hHeld ?_ (hy := by rintro w' ⟨s0, s1, s2⟩; go_simp; with_reducible rfl)
      refine tT 5 54 (bA 12 255) HT_.out HW_.out hHeld ?_ (hy := by rintro w' ⟨s0, s1, s2⟩; go_simp; with_reducible rfl)
      refine tT 8 57 (bA 12 511) HT_.out HW_.out hHeld ?_ (hy := by rintro w' ⟨s0, s1, s2⟩; go_simp; with_reducible rfl)
      refine pT 9 58 (bA 12 1023) HT_.out ?_
      refine oT 10 (bA 12 2047) HT_.out fun K hK => ?_
      refine yBx 8 98 #[.string (⟨#[]⟩ : ByteArray), .string (⟨#[]⟩ : ByteArray), .string (⟨#[]⟩ : ByteArray), .slice none 0 0] ?_
      intro ae hg w61 hbox hb
      have HS0_ := (hb.cell (World.block_lt_of_cell? _ _ (hHeld.1))).trans (hHeld.1)
      have HS1_ := (hb.cell (World.block_lt_of_cell? _ _ (hHeld.2.1))).trans (hHeld.2.1)
      have HS2_ := (hb.cell (World.block_lt_of_cell? _ _ (hHeld.2.2))).trans (hHeld.2.2)
      replace ad := am (rB ad.out hb)
      have ab := am (hbox)
      have b3 := am ((gTx hg HB.out))
      have b4 := am ((gTx hg HB.out))
      have af := am ((nT ac.out hg))
      have ah := am ((mT ac.out hg))
      replace ac := am (bB ac.out hb)
      replace HB := am (sTx HB.out hb)
      clear hb hbox hg
      refine hK.out _ _ ⟨HS0_, HS1_, HS2_⟩ (fun hHeld => ?_)
      clear hK K
      refine mN 8 ?_
      refine oT 11 (bA 12 4095) HT_.out fun K hK => ?_
      obtain ⟨eg, dM⟩ := bxA ab
      have cE := af.out
      have cF := ah.out
      have eh : w61.cell? ⟨ae, 1, none⟩ = some (.string (⟨#[]⟩ : ByteArray)) := cT ab 1
      have dN := blk_frozen ab.out 1
      have cG := af.out
      have cH := ah.out
      have ei : w61.cell? ⟨ae, 2, none⟩ = some (.string (⟨#[]⟩ : ByteArray)) := cT ab 2
      have dP := blk_frozen ab.out 2
      have cI := af.out
      have cJ := ah.out
      have ej : w61.cell? ⟨ae, 3, none⟩ = some (.slice none 0 0) := cT ab 3
      have dQ := blk_frozen ab.out 3
      have cK := af.out
      have cL := ah.out
      refine skip_ (w1 := ?_) (by rfl) rfl ?_ ?_
      rotate_left
      ·go_simp
       rfl
      refine hK.out _ _ kCl (fun hHeld => ?_)
      clear hK K
      refine done_ (done_of HT_.out rfK) ?_
      have dR := ah.out
      have dS := af.out
      obtain ⟨cM, cN, cO, cP, cQ, cR, cS, cU⟩ := bxD ab
      obtain ⟨cV, cX, cY, cZ, c_, da, db, dc⟩ := bxD ac
      try go_wp2
      refine bodyPost_ret (results_ct rfl _ _ ag 98 #[.string (rdOf ByteArray.empty aa 0), .string (rdOf ByteArray.empty aa 1), .string (rdOf ByteArray.empty aa 2), .slice none 0 0] (0, 0) _ rfl kBk Tryz.underlying98 rfl rfK) rfl ?_
      exact ⟨_, rfF, rfM, eTx HB.out⟩
 ·simp only [Option.some.injEq, Prod.mk.injEq] at H
  obtain ⟨rfl, rfl, rfl, rfl, rfl⟩ := H
  go_enter Tryz.func65, Tryz.ntmps65
  go_wp2_with (first | ((with_reducible refine gtD 2 ?_); refine xBx 2 98 #[.string (⟨#[]⟩ : ByteArray), .string (⟨#[]⟩ : ByteArray), .string (⟨#[]⟩ : ByteArray), .slice none 0 0] ?_; intro ag hg w69 hbox hb; have ac := am (hbox); have bO := am ((gTx hg HB.out)); have bP := am ((gTx hg HB.out)); replace HB := am (sTx HB.out hb); clear hb hbox hg) | ((with_reducible refine gtC 90 ?_); refine xCz 12 Tryz.func90 (strings_HasPrefix.calls a0 (⟨#[118]⟩ : ByteArray) false _ A2.out) fun nd => ?_; (try (rw [drewN_self w69]; generalize hq_ : World.drewN w69 _ = w69; have n0_ : Aside0 (w69.heap[ag]? = some (.cells #[.string (⟨#[]⟩ : ByteArray), .string (⟨#[]⟩ : ByteArray), .string (⟨#[]⟩ : ByteArray), .slice none 0 0] 98 (0, 0))) := ⟨by rw [← hq_]; exact (bT ac.out)⟩; have n1_ : Aside0 (Below w.heap.size w w69) := ⟨by rw [← hq_]; exact (eTx HB.out)⟩; clear ac HB hq_; have ac := n0_; have HB := n1_; clear n0_ n1_)); obtain ⟨dd, de, df, dg, dh, di, dj, dk⟩ := bxD ac))
  refine bodyPost_ret (results_ct rfl _ _ ag 98 #[.string (⟨#[]⟩ : ByteArray), .string (⟨#[]⟩ : ByteArray), .string (⟨#[]⟩ : ByteArray), .slice none 0 0] (0, 0) _ rfl kBk Tryz.underlying98 rfl rfK) rfl ?_
  exact ⟨_, rfF, rfM, eTx HB.out⟩

/-! ### cmp_Or_int: function 66 -/
def cmp_Or_int.l0 : Nat → Int → List Int → Int → Int → Option (Int)
 | 0, _, _, _, _ => none
 | k + 1, x3, x6, x7, x8 => if x8 < x7 then (if 0 ≤ x8 then (if x8 < (x6.length : Int) then (if (rd x6 x8) = x3 then (cmp_Or_int.l0 k x3 x6 x7 (wrap64 (x8 + 1))) else (some (rd x6 x8))) else (none)) else (none)) else (some x3)
def cmp_Or_int.f (k : Nat) (l0 : List Int) : Option (Int) := cmp_Or_int.l0 k 0 l0 (l0.length : Int) 0
theorem cmp_Or_int.mono_l : ∀ k, (∀ y0 y1 y2 y3, LeO (cmp_Or_int.l0 k y0 y1 y2 y3) (cmp_Or_int.l0 (k + 1) y0 y1 y2 y3))
 | 0 => fun _ _ _ _ r h => by simp [cmp_Or_int.l0] at h
 | k + 1 => by
  have ih0 := cmp_Or_int.mono_l k
  ·intro y0 y1 y2 y3
   unfold cmp_Or_int.l0
   repeat' first | (with_reducible first | apply ih0 | apply LeO.refl | apply LeO.none | apply LeO.ite | refine LeO.bind ?_ (fun _ => ?_)) | apply ih0 | exact LeO.none _ | refine LeO.ite ?_ ?_ | refine LeO.bind ?_ (fun _ => ?_)
theorem cmp_Or_int.mono : ∀ a0 k, LeO (cmp_Or_int.f k a0) (cmp_Or_int.f (k + 1) a0) := by
 intro a0 k
 have ih0 := cmp_Or_int.mono_l k
 unfold cmp_Or_int.f
 repeat' first | (with_reducible first | apply ih0 | apply LeO.refl | apply LeO.none | apply LeO.ite | refine LeO.bind ?_ (fun _ => ?_)) | apply ih0 | exact LeO.none _ | refine LeO.ite ?_ ?_ | refine LeO.bind ?_ (fun _ => ?_)
theorem cmp_Or_int.calls (k : Nat) (A0 : Option Addr) (c0 : Nat) (l0 : List Int) (r : Int) (w : World) (hr0 : Kd.C (Kd.int .i64) w A0 l0.length l0) (hc0 : l0.length ≤ c0) (h : cmp_Or_int.f k l0 = some r) :
  Calls Tryz.prog 66 #[.slice A0 l0.length c0] w fun e w' => e = .returned (.int .i64 r) ∧ Drawn0 w w' := by
 have HR0 := Aside0.mk hr0
 have HC0 := Aside0.mk hc0
 clear hr0 hc0
 unfold cmp_Or_int.f at h; have H := h; clear h
 have H' := Aside0.mk H
 clear H
 go_enter Tryz.func66, Tryz.ntmps66
 go_wp2
 go_loopg [8] k (fun kq v8 w' => ∃ (az : Int), v8 = .int .i64 az ∧ Aside0 (cmp_Or_int.l0 kq 0 l0 (l0.length : Int) az = some r) ∧ Aside0 (kq ≤ k) ∧ Drawn0 w w')
 case atStart => exact ⟨(0), rfG, H', ⟨Nat.le_refl _⟩, rfD⟩
 case round =>
  clear H'
  obtain ⟨az, rfl, HA, HK1, ⟨m1, rfl⟩⟩ := hrel
  cases gk with
  | zero => exact absurd HA.out (by simp [cmp_Or_int.l0])
  | succ k1 =>
   have H := HA.out
   clear HA
   simp only [cmp_Or_int.l0] at H
   replace H := ifP H; rcases H with ⟨c2, H⟩ | ⟨c2, H⟩
   ·have dx := decide_eq_true c2
    clear c2
    replace H := ifN H; obtain ⟨c3, H⟩ := H
    have aQ := decide_eq_true c3
    clear c3
    replace H := ifN H; obtain ⟨c4, H⟩ := H
    have bF := decide_eq_true c4
    clear c4
    replace H := ifP H; rcases H with ⟨c5, H⟩ | ⟨c5, H⟩
    ·have dy := beq_iff_eq.mpr c5
     have dz := bne_eq_false_iff_eq.mpr c5
     clear c5
     have H' := Aside0.mk H
     clear H
     have p171 : 0 ≤ (az : Int) := of_decide_eq_true rfA
     have q171 : az < (l0.length : Int) := of_decide_eq_true rfA
     obtain ⟨ad171, e171, bv⟩ := Kd.at_int HR0.out az p171 q171
     cases e171
     replace p171 := eq_true p171
     replace q171 := eq_true q171
     go_wp2
     go_roundg k1
     case measure => have := HK1.out; omega
     case rel => exact ⟨(wrap64 (az + 1)), rfG, H', ⟨by have := HK1.out; omega⟩, rfD⟩
    ·have dy := beq_eq_false_iff_ne.mpr c5
     have dz := bne_iff_ne.mpr c5
     obtain rfl := smI H
     have p171 : 0 ≤ (az : Int) := of_decide_eq_true rfA
     have q171 : az < (l0.length : Int) := of_decide_eq_true rfA
     obtain ⟨ad171, e171, bv⟩ := Kd.at_int HR0.out az p171 q171
     cases e171
     replace p171 := eq_true p171
     replace q171 := eq_true q171
     go_wp2
     go_ret
     exact ⟨rfG, rfD⟩
   ·have dx := decide_eq_false c2
    clear c2
    obtain rfl := smI H
    go_wp2
    go_ret
    exact ⟨rfG, rfD⟩

/-! ### cmp_isNaN_int: function 95 -/
def cmp_isNaN_int.f (a0 : Int) : Option (Bool) := some (a0 != a0)
theorem cmp_isNaN_int.calls (a0 : Int) (r : Bool) (w : World) (h : cmp_isNaN_int.f a0 = some r) :
  Calls Tryz.prog 95 #[.int .i64 a0] w fun e w' => e = .returned (.bool r) ∧ Drawn0 w w' := by
 unfold cmp_isNaN_int.f at h; have H := h; clear h
 obtain rfl := smI H
 go_enter Tryz.func95, Tryz.ntmps95
 go_wp2
 go_ret
 exact ⟨rfG, rfD⟩

/-! ### cmp_Compare_int: function 68 -/
def cmp_Compare_int.f (a0 : Int) (a1 : Int) : Option (Int) := (cmp_isNaN_int.f a0).bind fun aR => ((cmp_isNaN_int.f a1).bind fun aC => (if aR = true then (if aC = true then (some 0) else (some (-1))) else (if aC = true then (some 1) else (if a0 < a1 then (some (-1)) else (if a0 > a1 then (some 1) else (some 0))))))
theorem cmp_Compare_int.calls (a0 : Int) (a1 : Int) (r : Int) (w : World) (h : cmp_Compare_int.f a0 a1 = some r) :
  Calls Tryz.prog 68 #[.int .i64 a0, .int .i64 a1] w fun e w' => e = .returned (.int .i64 r) ∧ Drawn0 w w' := by
 unfold cmp_Compare_int.f at h; have H := h; clear h
 replace H := bnd H; obtain ⟨aR, A3, H⟩ := H
 replace H := bnd H; obtain ⟨aC, A4, H⟩ := H
 replace H := ifB H; rcases H with ⟨rfl, H⟩ | ⟨rfl, H⟩
 ·replace H := ifB H; rcases H with ⟨rfl, H⟩ | ⟨rfl, H⟩
  ·obtain rfl := smI H
   go_enter Tryz.func68, Tryz.ntmps68
   go_wp2_with (first | ((with_reducible refine gtC 95 ?_); refine xCz 8 Tryz.func95 (cmp_isNaN_int.calls a0 true _ A3.out) fun nd => ?_) | ((with_reducible refine gtC 95 ?_); refine xCz 10 Tryz.func95 (cmp_isNaN_int.calls a1 true _ A4.out) fun nd => ?_))
   go_ret
   exact ⟨rfG, rfD⟩
  ·obtain rfl := smI H
   go_enter Tryz.func68, Tryz.ntmps68
   go_wp2_with (first | ((with_reducible refine gtC 95 ?_); refine xCz 8 Tryz.func95 (cmp_isNaN_int.calls a0 true _ A3.out) fun nd => ?_) | ((with_reducible refine gtC 95 ?_); refine xCz 10 Tryz.func95 (cmp_isNaN_int.calls a1 false _ A4.out) fun nd => ?_))
   go_ret
   exact ⟨rfG, rfD⟩
 ·replace H := ifB H; rcases H with ⟨rfl, H⟩ | ⟨rfl, H⟩
  ·obtain rfl := smI H
   go_enter Tryz.func68, Tryz.ntmps68
   go_wp2_with (first | ((with_reducible refine gtC 95 ?_); refine xCz 8 Tryz.func95 (cmp_isNaN_int.calls a0 false _ A3.out) fun nd => ?_) | ((with_reducible refine gtC 95 ?_); refine xCz 10 Tryz.func95 (cmp_isNaN_int.calls a1 true _ A4.out) fun nd => ?_))
   go_ret
   exact ⟨rfG, rfD⟩
  ·replace H := ifP H; rcases H with ⟨c8, H⟩ | ⟨c8, H⟩
   ·have bG := decide_eq_true c8
    clear c8
    obtain rfl := smI H
    go_enter Tryz.func68, Tryz.ntmps68
    go_wp2_with (first | ((with_reducible refine gtC 95 ?_); refine xCz 8 Tryz.func95 (cmp_isNaN_int.calls a0 false _ A3.out) fun nd => ?_) | ((with_reducible refine gtC 95 ?_); refine xCz 10 Tryz.func95 (cmp_isNaN_int.calls a1 false _ A4.out) fun nd => ?_))
    go_ret
    exact ⟨rfG, rfD⟩
   ·have bG := decide_eq_false c8
    clear c8
    replace H := ifP H; rcases H with ⟨c9, H⟩ | ⟨c9, H⟩
    ·have bH : decide (a1 < a0) = true := decide_eq_true c9
     clear c9
     obtain rfl := smI H
     go_enter Tryz.func68, Tryz.ntmps68
     go_wp2_with (first | ((with_reducible refine gtC 95 ?_); refine xCz 8 Tryz.func95 (cmp_isNaN_int.calls a0 false _ A3.out) fun nd => ?_) | ((with_reducible refine gtC 95 ?_); refine xCz 10 Tryz.func95 (cmp_isNaN_int.calls a1 false _ A4.out) fun nd => ?_))
     go_ret
     exact ⟨rfG, rfD⟩
    ·have bH : decide (a1 < a0) = false := decide_eq_false c9
     clear c9
     obtain rfl := smI H
     go_enter Tryz.func68, Tryz.ntmps68
     go_wp2_with (first | ((with_reducible refine gtC 95 ?_); refine xCz 8 Tryz.func95 (cmp_isNaN_int.calls a0 false _ A3.out) fun nd => ?_) | ((with_reducible refine gtC 95 ?_); refine xCz 10 Tryz.func95 (cmp_isNaN_int.calls a1 false _ A4.out) fun nd => ?_))
     go_ret
     exact ⟨rfG, rfD⟩

/-! ### cmp_isNaN_string: function 123 -/
def cmp_isNaN_string.f (a0 : ByteArray) : Option (Bool) := some (a0.toList != a0.toList)
theorem cmp_isNaN_string.calls (a0 : ByteArray) (r : Bool) (w : World) (h : cmp_isNaN_string.f a0 = some r) :
  Calls Tryz.prog 123 #[.string a0] w fun e w' => e = .returned (.bool r) ∧ Drawn0 w w' := by
 unfold cmp_isNaN_string.f at h; have H := h; clear h
 obtain rfl := smI H
 go_enter Tryz.func123, Tryz.ntmps123
 go_wp2
 go_ret
 exact ⟨rfG, rfD⟩

/-! ### cmp_Compare_string: function 102 -/
def cmp_Compare_string.f (a0 : ByteArray) (a1 : ByteArray) : Option (Int) := (cmp_isNaN_string.f a0).bind fun aU => ((cmp_isNaN_string.f a1).bind fun aD => (if aU = true then (if aD = true then (some 0) else (some (-1))) else (if aD = true then (some 1) else (if (Op.bytesLess a0.toList a1.toList) = true then (some (-1)) else (if (Op.bytesLess a1.toList a0.toList) = true then (some 1) else (some 0))))))
theorem cmp_Compare_string.calls (a0 : ByteArray) (a1 : ByteArray) (r : Int) (w : World) (h : cmp_Compare_string.f a0 a1 = some r) :
  Calls Tryz.prog 102 #[.string a0, .string a1] w fun e w' => e = .returned (.int .i64 r) ∧ Drawn0 w w' := by
 unfold cmp_Compare_string.f at h; have H := h; clear h
 replace H := bnd H; obtain ⟨aU, A3, H⟩ := H
 replace H := bnd H; obtain ⟨aD, A4, H⟩ := H
 replace H := ifB H; rcases H with ⟨rfl, H⟩ | ⟨rfl, H⟩
 ·replace H := ifB H; rcases H with ⟨rfl, H⟩ | ⟨rfl, H⟩
  ·obtain rfl := smI H
   go_enter Tryz.func102, Tryz.ntmps102
   go_wp2_with (first | ((with_reducible refine gtC 123 ?_); refine xCz 8 Tryz.func123 (cmp_isNaN_string.calls a0 true _ A3.out) fun nd => ?_) | ((with_reducible refine gtC 123 ?_); refine xCz 10 Tryz.func123 (cmp_isNaN_string.calls a1 true _ A4.out) fun nd => ?_))
   go_ret
   exact ⟨rfG, rfD⟩
  ·obtain rfl := smI H
   go_enter Tryz.func102, Tryz.ntmps102
   go_wp2_with (first | ((with_reducible refine gtC 123 ?_); refine xCz 8 Tryz.func123 (cmp_isNaN_string.calls a0 true _ A3.out) fun nd => ?_) | ((with_reducible refine gtC 123 ?_); refine xCz 10 Tryz.func123 (cmp_isNaN_string.calls a1 false _ A4.out) fun nd => ?_))
   go_ret
   exact ⟨rfG, rfD⟩
 ·replace H := ifB H; rcases H with ⟨rfl, H⟩ | ⟨rfl, H⟩
  ·obtain rfl := smI H
   go_enter Tryz.func102, Tryz.ntmps102
   go_wp2_with (first | ((with_reducible refine gtC 123 ?_); refine xCz 8 Tryz.func123 (cmp_isNaN_string.calls a0 false _ A3.out) fun nd => ?_) | ((with_reducible refine gtC 123 ?_); refine xCz 10 Tryz.func123 (cmp_isNaN_string.calls a1 true _ A4.out) fun nd => ?_))
   go_ret
   exact ⟨rfG, rfD⟩
  ·replace H := ifP H; rcases H with ⟨c8, H⟩ | ⟨c8, H⟩
   ·have bG := c8
    clear c8
    obtain rfl := smI H
    go_enter Tryz.func102, Tryz.ntmps102
    go_wp2_with (first | ((with_reducible refine gtC 123 ?_); refine xCz 8 Tryz.func123 (cmp_isNaN_string.calls a0 false _ A3.out) fun nd => ?_) | ((with_reducible refine gtC 123 ?_); refine xCz 10 Tryz.func123 (cmp_isNaN_string.calls a1 false _ A4.out) fun nd => ?_))
    go_ret
    exact ⟨rfG, rfD⟩
   ·have bG := Bool.eq_false_iff.mpr c8
    clear c8
    replace H := ifP H; rcases H with ⟨c9, H⟩ | ⟨c9, H⟩
    ·have bH := c9
     clear c9
     obtain rfl := smI H
     go_enter Tryz.func102, Tryz.ntmps102
     go_wp2_with (first | ((with_reducible refine gtC 123 ?_); refine xCz 8 Tryz.func123 (cmp_isNaN_string.calls a0 false _ A3.out) fun nd => ?_) | ((with_reducible refine gtC 123 ?_); refine xCz 10 Tryz.func123 (cmp_isNaN_string.calls a1 false _ A4.out) fun nd => ?_))
     go_ret
     exact ⟨rfG, rfD⟩
    ·have bH := Bool.eq_false_iff.mpr c9
     clear c9
     obtain rfl := smI H
     go_enter Tryz.func102, Tryz.ntmps102
     go_wp2_with (first | ((with_reducible refine gtC 123 ?_); refine xCz 8 Tryz.func123 (cmp_isNaN_string.calls a0 false _ A3.out) fun nd => ?_) | ((with_reducible refine gtC 123 ?_); refine xCz 10 Tryz.func123 (cmp_isNaN_string.calls a1 false _ A4.out) fun nd => ?_))
     go_ret
     exact ⟨rfG, rfD⟩

/-! ### octet_Cmp: function 79 -/
def octet_Cmp.f (a0 : ByteArray) (a1 : ByteArray) : Option (Int) := (cmp_Compare_string.f a0 a1).bind fun a7 => (some a7)
theorem octet_Cmp.calls (a0 : ByteArray) (a1 : ByteArray) (r : Int) (w : World) (h : octet_Cmp.f a0 a1 = some r) :
  Calls Tryz.prog 79 #[.string a0, .string a1] w fun e w' => e = .returned (.int .i64 r) ∧ Drawn0 w w' := by
 unfold octet_Cmp.f at h; have H := h; clear h
 replace H := bnd H; obtain ⟨a7, A3, H⟩ := H
 obtain rfl := smI H
 go_enter Tryz.func79, Tryz.ntmps79
 go_wp2_with (first | ((with_reducible refine gtC 102 ?_); refine xCz 7 Tryz.func102 (cmp_Compare_string.calls a0 a1 a7 _ A3.out) fun nd => ?_))
 go_ret
 exact ⟨rfG, rfD⟩

end Go.Proofs.YtknmfmedklfepaaGreatDoor.P
