-- half the indentation
import Derived.Test.YtknmfmedklfepaaGreatDoorReg
import Derived.Test.YtknmfmedklfepaaGreatDoorSqz
import Derived.Test.YtknmfmedklfepaaGreatDoorShift
import Derived.Test.YtknmfmedklfepaaGreatDoorP0
import Derived.Test.YtknmfmedklfepaaGreatDoorP2
import Derived.Test.YtknmfmedklfepaaGreatDoorP8
import Derived.Test.YtknmfmedklfepaaGreatDoorP34
namespace Go.Proofs.YtknmfmedklfepaaGreatDoor.P
open Go.RowKit Go.Proofs.YtknmfmedklfepaaGreatDoorW.PrintWords Go.Proofs.YtknmfmedklfepaaGreatDoorW.PrintLast Go.Proofs.YtknmfmedklfepaaGreatDoorW.PrintMore
attribute [local go_sem] max2_int min2_int max_two min_two max_three min_three max_four min_four
set_option linter.unusedVariables false
set_option linter.unusedSimpArgs false
set_option maxHeartbeats 8000000
set_option maxRecDepth 100000

attribute [local go_sem high] eqA75
/-! ### graftwoodref17_SameChanges: function 27 -/
def graftwoodref17_SameChanges.l0 : Nat → List (S75) → List (S75) → Int → Option (Bool)
 | 0, _, _, _ => none
 | k + 1, x0, x1, x5 => if x5 < (x0.length : Int) then (if 0 ≤ x5 then (if x5 < (x1.length : Int) then (if (!((((rd_T75 x0 x5).f0).toList) == (((rd_T75 x1 x5).f0).toList)) || (!((((rd_T75 x0 x5).f1).toList) == (((rd_T75 x1 x5).f1).toList)) || (!((((rd_T75 x0 x5).f2).toList) == (((rd_T75 x1 x5).f2).toList))))) = true then (some false) else (graftwoodref17_SameChanges.l0 k x0 x1 (wrap64 (x5 + 1)))) else (none)) else (none)) else (some true)
def graftwoodref17_SameChanges.f (k : Nat) (l0 : List (S75)) (l1 : List (S75)) : Option (Bool) := if (l0.length : Int) = (l1.length : Int) then (graftwoodref17_SameChanges.l0 k l0 l1 0) else (some false)
theorem graftwoodref17_SameChanges.mono_l : ∀ k, (∀ y0 y1 y2, LeO (graftwoodref17_SameChanges.l0 k y0 y1 y2) (graftwoodref17_SameChanges.l0 (k + 1) y0 y1 y2))
 | 0 => fun _ _ _ r h => by simp [graftwoodref17_SameChanges.l0] at h
 | k + 1 => by
  have ih0 := graftwoodref17_SameChanges.mono_l k
  ·intro y0 y1 y2
   unfold graftwoodref17_SameChanges.l0
   repeat' first | (with_reducible first | apply ih0 | apply LeO.refl | apply LeO.none | apply LeO.ite | refine LeO.bind ?_ (fun _ => ?_)) | apply ih0 | exact LeO.none _ | refine LeO.ite ?_ ?_ | refine LeO.bind ?_ (fun _ => ?_)
theorem graftwoodref17_SameChanges.mono : ∀ a0 a1 k, LeO (graftwoodref17_SameChanges.f k a0 a1) (graftwoodref17_SameChanges.f (k + 1) a0 a1) := by
 intro a0 a1 k
 have ih0 := graftwoodref17_SameChanges.mono_l k
 unfold graftwoodref17_SameChanges.f
 repeat' first | (with_reducible first | apply ih0 | apply LeO.refl | apply LeO.none | apply LeO.ite | refine LeO.bind ?_ (fun _ => ?_)) | apply ih0 | exact LeO.none _ | refine LeO.ite ?_ ?_ | refine LeO.bind ?_ (fun _ => ?_)
theorem graftwoodref17_SameChanges.calls (k : Nat) (A0 : Option Addr) (c0 : Nat) (l0 : List (S75)) (A1 : Option Addr) (c1 : Nat) (l1 : List (S75)) (r : Bool) (w : World) (hr0 : Kd.C k75 w A0 l0.length l0) (hc0 : l0.length ≤ c0) (hr1 : Kd.C k75 w A1 l1.length l1) (hc1 : l1.length ≤ c1) (h : graftwoodref17_SameChanges.f k l0 l1 = some r) :
  Calls Tryz.prog 27 #[.slice A0 l0.length c0, .slice A1 l1.length c1] w fun e w' => e = .returned (.bool r) ∧ Drawn0 w w' := by
 have hu75 := Tryz.underlying75
 have HR0 := Aside0.mk hr0
 have HC0 := Aside0.mk hc0
 clear hr0 hc0
 have HR1 := Aside0.mk hr1
 have HC1 := Aside0.mk hc1
 clear hr1 hc1
 unfold graftwoodref17_SameChanges.f at h; have H := h; clear h
 replace H := ifP H; rcases H with ⟨c3, H⟩ | ⟨c3, H⟩
 ·have b9 := beq_iff_eq.mpr c3
  have b_ := bne_eq_false_iff_eq.mpr c3
  have ca : (l0.length == l1.length) = true := by first | simpa using c3 | (simp at c3 ⊢; omega)
  clear c3
  have H' := Aside0.mk H
  clear H
  go_enter Tryz.func27, Tryz.ntmps27
  go_wp2
  repeat (go_quiet (fail); try go_wp2)
  go_loopg [5] k (fun kq v5 w' => ∃ (ac : Int), v5 = .int .i64 ac ∧ Aside0 (graftwoodref17_SameChanges.l0 kq l0 l1 ac = some r) ∧ Aside0 (kq ≤ k) ∧ Drawn0 w w')
  case atStart => exact ⟨(0), rfG, H', ⟨Nat.le_refl _⟩, rfD⟩
  case round =>
   clear H'
   obtain ⟨ac, rfl, HA, HK1, ⟨m1, rfl⟩⟩ := hrel
   cases gk with
   | zero => exact absurd HA.out (by simp [graftwoodref17_SameChanges.l0])
   | succ k1 =>
    have H := HA.out
    clear HA
    simp only [graftwoodref17_SameChanges.l0] at H
    replace H := ifP H; rcases H with ⟨c4, H⟩ | ⟨c4, H⟩
    ·have cp := decide_eq_true c4
     clear c4
     replace H := ifN H; obtain ⟨c5, H⟩ := H
     have cb := decide_eq_true c5
     clear c5
     replace H := ifN H; obtain ⟨c6, H⟩ := H
     have cq := decide_eq_true c6
     clear c6
     replace H := ifP H; rcases H with ⟨c7, H⟩ | ⟨c7, H⟩
     ·have cr := c7
      clear c7
      obtain rfl := smI H
      have p479 : 0 ≤ (ac : Int) := of_decide_eq_true rfA
      have q479 : ac < (l0.length : Int) := of_decide_eq_true rfA
      obtain ⟨ad479, e479, bL, bM, bN⟩ := at_T75 HR0.out ac p479 q479
      cases e479
      replace p479 := eq_true p479
      replace q479 := eq_true q479
      have p480 : 0 ≤ (ac : Int) := of_decide_eq_true rfA
      have q480 : ac < (l1.length : Int) := of_decide_eq_true rfA
      obtain ⟨ad480, e480, bO, bP, bQ⟩ := at_T75 HR1.out ac p480 q480
      cases e480
      replace p480 := eq_true p480
      replace q480 := eq_true q480
      go_wp2
      repeat (go_quiet (fail); try go_wp2)
      go_ret
      exact ⟨rfG, rfD⟩
     ·have cr := Bool.eq_false_iff.mpr c7
      clear c7
      have H' := Aside0.mk H
      clear H
      have p479 : 0 ≤ (ac : Int) := of_decide_eq_true rfA
      have q479 : ac < (l0.length : Int) := of_decide_eq_true rfA
      obtain ⟨ad479, e479, bL, bM, bN⟩ := at_T75 HR0.out ac p479 q479
      cases e479
      replace p479 := eq_true p479
      replace q479 := eq_true q479
      have p480 : 0 ≤ (ac : Int) := of_decide_eq_true rfA
      have q480 : ac < (l1.length : Int) := of_decide_eq_true rfA
      obtain ⟨ad480, e480, bO, bP, bQ⟩ := at_T75 HR1.out ac p480 q480
      cases e480
      replace p480 := eq_true p480
      replace q480 := eq_true q480
      go_wp2
      repeat (go_quiet (fail); try go_wp2)
      go_roundg k1
      case measure => have := HK1.out; omega
      case rel => exact ⟨(wrap64 (ac + 1)), rfG, H', ⟨by have := HK1.out; omega⟩, rfD⟩
    ·have cp := decide_eq_false c4
     clear c4
     obtain rfl := smI H
     go_wp2
     repeat (go_quiet (fail); try go_wp2)
     go_ret
     exact ⟨rfG, rfD⟩
 ·have b9 := beq_eq_false_iff_ne.mpr c3
  have b_ := bne_iff_ne.mpr c3
  have ca : (l0.length == l1.length) = false := by first | simpa using c3 | (simp at c3 ⊢; omega)
  obtain rfl := smI H
  go_enter Tryz.func27, Tryz.ntmps27
  go_wp2
  repeat (go_quiet (fail); try go_wp2)
  go_ret
  exact ⟨rfG, rfD⟩

/-! ### graftwoodref17_paths: function 50 -/
mutual
def graftwoodref17_paths.l0 : Nat → List ByteArray → List (S55) → Int → Option (List ByteArray)
 | 0, _, _, _ => none
 | k + 1, x5, x6, x7 => if x7 < (x6.length : Int) then (graftwoodref17_paths.l1 k x5 x6 x7 0) else (some x5)
def graftwoodref17_paths.l1 : Nat → List ByteArray → List (S55) → Int → Int → Option (List ByteArray)
 | 0, _, _, _, _ => none
 | k + 1, x5, x6, x7, x8 => if x8 < (x5.length : Int) then (if 0 ≤ x8 then (if 0 ≤ x7 then (if x7 < (x6.length : Int) then ((graftwoodref01_Cmp.f k (rdOf ByteArray.empty x5 x8) ((rd_T55 x6 x7).f0)).bind fun az => (if az < 0 then (graftwoodref17_paths.l1 k x5 x6 x7 (wrap64 (x8 + 1))) else (if ((rdOf ByteArray.empty x5 x8).toList = ((rd_T55 x6 x7).f0).toList) then (graftwoodref17_paths.l0 k x5 x6 (wrap64 (x7 + 1))) else (if x5.length < 8796093022208 then ((some (x5 ++ [(⟨#[]⟩ : ByteArray)] : List ByteArray)).bind fun ah => (if 0 ≤ (wrap64 (x8 + 1)) then (if (wrap64 (x8 + 1)) ≤ (ah.length : Int) then (if x8 ≤ (ah.length : Int) then ((some (shL ah (x8 : Int).toNat : List ByteArray)).bind fun aq => (if x8 < (aq.length : Int) then (graftwoodref17_paths.l0 k (aq.set (x8 : Int).toNat ((rd_T55 x6 x7).f0)) x6 (wrap64 (x7 + 1))) else (none))) else (none)) else (none)) else (none))) else (none))))) else (none)) else (none)) else (none)) else (if x5.length < 8796093022208 then ((some (x5 ++ [(⟨#[]⟩ : ByteArray)] : List ByteArray)).bind fun ai => (if 0 ≤ (wrap64 (x8 + 1)) then (if (wrap64 (x8 + 1)) ≤ (ai.length : Int) then (if 0 ≤ x8 then (if x8 ≤ (ai.length : Int) then ((some (shL ai (x8 : Int).toNat : List ByteArray)).bind fun ar => (if 0 ≤ x7 then (if x7 < (x6.length : Int) then (if x8 < (ar.length : Int) then (graftwoodref17_paths.l0 k (ar.set (x8 : Int).toNat ((rd_T55 x6 x7).f0)) x6 (wrap64 (x7 + 1))) else (none)) else (none)) else (none))) else (none)) else (none)) else (none)) else (none))) else (none))
end
def graftwoodref17_paths.f (k : Nat) (l0 : List (S55)) (l1 : List (S55)) : Option (List ByteArray) := (some (([] : List (S55)) : List (S55))).bind fun aU => (if aU.length + l0.length < 4398046511104 then ((some (aU ++ l0 : List (S55))).bind fun ay => (if ay.length + l1.length < 4398046511104 then (graftwoodref17_paths.l0 k ([] : List ByteArray) (ay ++ l1) 0) else (none))) else (none))
theorem graftwoodref17_paths.mono_l : ∀ k, (∀ y0 y1 y2, LeO (graftwoodref17_paths.l0 k y0 y1 y2) (graftwoodref17_paths.l0 (k + 1) y0 y1 y2)) ∧ (∀ y0 y1 y2 y3, LeO (graftwoodref17_paths.l1 k y0 y1 y2 y3) (graftwoodref17_paths.l1 (k + 1) y0 y1 y2 y3))
 | 0 => ⟨fun _ _ _ r h => by simp [graftwoodref17_paths.l0] at h, fun _ _ _ _ r h => by simp [graftwoodref17_paths.l1] at h⟩
 | k + 1 => by
  obtain ⟨ih0, ih1⟩ := graftwoodref17_paths.mono_l k
  refine ⟨?_, ?_⟩
  ·intro y0 y1 y2
   unfold graftwoodref17_paths.l0
   repeat' first | (with_reducible first | apply ih0 | apply ih1 | apply graftwoodref01_Cmp.mono | apply LeO.refl | apply LeO.none | apply LeO.ite | refine LeO.bind ?_ (fun _ => ?_)) | apply ih0 | apply ih1 | apply graftwoodref01_Cmp.mono | exact LeO.none _ | refine LeO.ite ?_ ?_ | refine LeO.bind ?_ (fun _ => ?_)
  ·intro y0 y1 y2 y3
   unfold graftwoodref17_paths.l1
   repeat' first | (with_reducible first | apply ih0 | apply ih1 | apply graftwoodref01_Cmp.mono | apply LeO.refl | apply LeO.none | apply LeO.ite | refine LeO.bind ?_ (fun _ => ?_)) | apply ih0 | apply ih1 | apply graftwoodref01_Cmp.mono | exact LeO.none _ | refine LeO.ite ?_ ?_ | refine LeO.bind ?_ (fun _ => ?_)
theorem graftwoodref17_paths.mono : ∀ a0 a1 k, LeO (graftwoodref17_paths.f k a0 a1) (graftwoodref17_paths.f (k + 1) a0 a1) := by
 intro a0 a1 k
 obtain ⟨ih0, ih1⟩ := graftwoodref17_paths.mono_l k
 unfold graftwoodref17_paths.f
 repeat' first | (with_reducible first | apply ih0 | apply ih1 | apply graftwoodref01_Cmp.mono | apply LeO.refl | apply LeO.none | apply LeO.ite | refine LeO.bind ?_ (fun _ => ?_)) | apply ih0 | apply ih1 | apply graftwoodref01_Cmp.mono | exact LeO.none _ | refine LeO.ite ?_ ?_ | refine LeO.bind ?_ (fun _ => ?_)
def graftwoodref17_paths.TC : Bool × List (List Nat × List Nat) := (true, [([], []), ([], []), ([1], [1]), ([0, 2], [0, 2]), ([], []), ([], []), ([4, 5], [4, 5]), ([3, 6], [3, 6])])
def graftwoodref17_paths.BC : List Nat := [0, 0, 2, 7, 0, 0, 48, 127]
theorem graftwoodref17_paths.tabC : rtab .any (opsOf Tryz.f50 12) = graftwoodref17_paths.TC := by kernel_rfl
theorem graftwoodref17_paths.bitsC : waitsOk graftwoodref17_paths.TC.2 graftwoodref17_paths.BC = true := by kernel_rfl
theorem graftwoodref17_paths.calls (k : Nat) (A0 : Option Addr) (c0 : Nat) (l0 : List (S55)) (A1 : Option Addr) (c1 : Nat) (l1 : List (S55)) (r : List ByteArray) (w : World) (hr0 : Kd.C k55 w A0 l0.length l0) (hc0 : l0.length ≤ c0) (hr1 : Kd.C k55 w A1 l1.length l1) (hc1 : l1.length ≤ c1) (h : graftwoodref17_paths.f k l0 l1 = some r) :
  Calls Tryz.prog 50 #[.slice A0 l0.length c0, .slice A1 l1.length c1] w fun e w' => ∃ v0_ : Value, e = .returned (v0_) ∧ Kd.R Kd.string 9 w' w.heap.size (fun _ => True) v0_ r ∧ Below w.heap.size w w' := by
 have HR0 := Aside0.mk hr0
 have HC0 := Aside0.mk hc0
 clear hr0 hc0
 have HR1 := Aside0.mk hr1
 have HC1 := Aside0.mk hc1
 clear hr1 hc1
 have HB := am (Below.refl w.heap.size w)
 unfold graftwoodref17_paths.f at h; have H := h; clear h
 obtain ⟨aU, aZ⟩ : ∃ y_ : List (S55), y_ = (([] : List (S55))) := ⟨_, rfl⟩
 replace H : (if aU.length + l0.length < 4398046511104 then ((some (aU ++ l0 : List (S55))).bind fun ay => (if ay.length + l1.length < 4398046511104 then (graftwoodref17_paths.l0 k ([] : List ByteArray) (ay ++ l1) 0) else (none))) else (none)) = some r := by first | (rw [aZ]; with_reducible exact H) | (have H2_ := (Option.bind_some _ _).symm.trans H; rw [aZ]; with_reducible exact H2_) | (have H2_ := (Option.bind_some _ _).symm.trans H; with_reducible exact H2_) | with_reducible exact H | (rw [aZ]; exact H) | exact H
 have Ny481 := Aside0.mk aZ
 clear aZ
 replace H := ifP H; rcases H with ⟨c3, H⟩ | ⟨c3, H⟩
 ·have LMc3 := Aside0.mk c3
  clear c3
  obtain ⟨ay, a2⟩ : ∃ y_ : List (S55), y_ = (aU ++ l0) := ⟨_, rfl⟩
  replace H : (if ay.length + l1.length < 4398046511104 then (graftwoodref17_paths.l0 k ([] : List ByteArray) (ay ++ l1) 0) else (none)) = some r := by first | (rw [a2]; with_reducible exact H) | (have H2_ := (Option.bind_some _ _).symm.trans H; rw [a2]; with_reducible exact H2_) | (have H2_ := (Option.bind_some _ _).symm.trans H; with_reducible exact H2_) | with_reducible exact H | (rw [a2]; exact H) | exact H
  have Ny484 := Aside0.mk a2
  clear a2
  replace H := ifN H; obtain ⟨c4, H⟩ := H
  have LMc4 := Aside0.mk c4
  clear c4
  obtain ⟨af, a3⟩ : ∃ y_ : List (S55), y_ = (ay ++ l1) := ⟨_, rfl⟩
  replace H : (graftwoodref17_paths.l0 k ([] : List ByteArray) af 0) = some r := by first | (rw [a3]; with_reducible exact H) | (have H2_ := (Option.bind_some _ _).symm.trans H; rw [a3]; with_reducible exact H2_) | (have H2_ := (Option.bind_some _ _).symm.trans H; with_reducible exact H2_) | with_reducible exact H | (rw [a3]; exact H) | exact H
  have Ny487 := Aside0.mk a3
  clear a3
  have H' := Aside0.mk H
  clear H
  go_enter Tryz.func50, Tryz.ntmps50
  go_wp2_with (first | ((with_reducible refine gtD 10 ?_); refine Kd.R_lit k55 _ 55 ?hg (N := 10) ?hd (xs := ([] : List (S55))) (inner := []) (ok := fun _ => True) (okp := fun _ => True) ?hr ?hp (fun _ hk => hk) trivial (Below.refl _ _) (Nat.le_refl _) (by simp) ?_; (case hd => rfl); (case hg => rfl); (case hr => first | (go_simp; done) | (go_simp; rfl)); (case hp => exact (Reps.none _ _)); intro bv w5 ho6 hb hg_ hnew_; clear hg_ hnew_; (first | rw [← Ny481.out] at ho6 | (simp only [Int.reduceToNat] at ho6; rw [← Ny481.out] at ho6)); have aV := am (Kd.R_lower ho6 (below_size (eTx HB.out))); replace HB := am (sTx HB.out hb); clear hb ho6) | ((with_reducible refine gate_builtin (b := .append) (xs := #[.tmp 10, .tmp 11]) rfl ?_); at_builtin; refine Kd.R_append_rows k55 (w0 := w) w.heap.size rfl (.tmp 10) (.tmp 11) 22 55 (.agg #[(.string ⟨#[]⟩), (.string ⟨#[]⟩)]) 32 rfl Tryz.underlying22 info55 rfl (by decide) (by omega) bv aU l0 _ _ _ (fun _ => True) (fun _ => False) rfl rfl ?aO ?aR (fun _ _ h => h) (fun _ h => h.elim) ?aF ?aB ?aS ?aL ?_; (case aR => exact cW (Kd.C_below HR0.out HB.out)); (case aB => exact (eTx HB.out)); (case aF => exact (fun _ _ => trivial)); (case aO => exact (rT aV.out)); (case aS => exact (below_size (eTx HB.out))); (case aL => have := LMc3.out; omega); intro bw w7 ho hb hg hat; rw [← Ny484.out] at ho; replace HB := am (hb); have aW := am (ho); clear aV ho hb hg hat) | ((with_reducible refine gate_builtin (b := .append) (xs := #[.tmp 12, .tmp 13]) rfl ?_); at_builtin; refine Kd.R_append_rows k55 (w0 := w) w.heap.size rfl (.tmp 12) (.tmp 13) 22 55 (.agg #[(.string ⟨#[]⟩), (.string ⟨#[]⟩)]) 32 rfl Tryz.underlying22 info55 rfl (by decide) (by omega) bw ay l1 _ _ _ (fun _ => True) (fun _ => False) rfl rfl ?aO ?aR (fun _ _ h => h) (fun _ h => h.elim) ?aF ?aB ?aS ?aL ?_; (case aR => exact cW (Kd.C_below HR1.out HB.out)); (case aB => exact (eTx HB.out)); (case aF => exact (fun _ _ => trivial)); (case aO => exact (rT aW.out)); (case aS => exact (below_size (eTx HB.out))); (case aL => have := LMc4.out; omega); intro b3 w8 ho hb hg hat; rw [← Ny487.out] at ho; replace HB := am (hb); have bx := am (ho); clear aW ho hb hg hat))
  go_loopg [5, 7] k (fun kq v5 v7 w' => ∃ (ac : List ByteArray) (ab : Int), v7 = .int .i64 ab ∧ Aside0 (graftwoodref17_paths.l0 kq ac af ab = some r) ∧ Aside0 (kq ≤ k) ∧ Aside0 (Kd.R Kd.string 9 w' w.heap.size (fun _ => True) v5 ac) ∧ Aside0 (Kd.R k55 55 w' w.heap.size (fun _ => True) b3 af) ∧ Aside0 (Below w.heap.size w w'))
  case atStart => exact ⟨(([] : List ByteArray)), (0), rfG, H', ⟨Nat.le_refl _⟩, ⟨rfM⟩, ⟨rT bx.out⟩, ⟨eTx HB.out⟩⟩
  case round =>
   clear H'
   obtain ⟨ac, ab, rfl, HA, HK1, an, ag, HB⟩ := hrel
   cases gk with
   | zero => exact absurd HA.out (by simp [graftwoodref17_paths.l0])
   | succ k1 =>
    have H := HA.out
    clear HA
    simp only [graftwoodref17_paths.l0] at H
    replace H := ifP H; rcases H with ⟨c9, H⟩ | ⟨c9, H⟩
    ·have bR := decide_eq_true c9
     clear c9
     have H' := Aside0.mk H
     clear H
     obtain ⟨cc, cd, b4⟩ := Kd.R_slice ag.out
     subst b4
     go_wp2
     repeat (go_quiet (fail); try go_wp2)
     go_loopg [8] k1 (fun kq v8 w' => ∃ (aa : Int), v8 = .int .i64 aa ∧ Aside0 (graftwoodref17_paths.l1 kq ac af ab aa = some r) ∧ Aside0 (kq ≤ k1) ∧ Aside0 (Kd.R Kd.string 9 w' w.heap.size (fun _ => True) u5 ac) ∧ Aside0 (Kd.R k55 55 w' w.heap.size (fun _ => True) (.slice cc af.length cd) af) ∧ Aside0 (Below w.heap.size w w'))
     case atStart => exact ⟨(0), rfG, H', ⟨Nat.le_refl _⟩, ⟨rT an.out⟩, ⟨rT ag.out⟩, ⟨eTx HB.out⟩⟩
     case round =>
      clear H'
      obtain ⟨aa, rfl, HA, HK2, an, ag, HB⟩ := hrel
      cases gk with
      | zero => exact absurd HA.out (by simp [graftwoodref17_paths.l1])
      | succ k2 =>
       have H := HA.out
       clear HA
       simp only [graftwoodref17_paths.l1] at H
       replace H := ifP H; rcases H with ⟨c11, H⟩ | ⟨c11, H⟩
       ·have ce := decide_eq_true c11
        clear c11
        replace H := ifN H; obtain ⟨c12, H⟩ := H
        have cC := decide_eq_true c12
        clear c12
        replace H := ifN H; obtain ⟨c13, H⟩ := H
        have cD := decide_eq_true c13
        clear c13
        replace H := ifN H; obtain ⟨c14, H⟩ := H
        have cE := decide_eq_true c14
        clear c14
        replace H := bnd H; obtain ⟨az, A15, H⟩ := H
        replace H := ifP H; rcases H with ⟨c16, H⟩ | ⟨c16, H⟩
        ·have cg := decide_eq_true c16
         clear c16
         have H' := Aside0.mk H
         clear H
         obtain ⟨c8, c_, cs⟩ := Kd.R_slice an.out
         subst cs
         have p490 : 0 ≤ (aa : Int) := of_decide_eq_true rfA
         have q490 : aa < (ac.length : Int) := of_decide_eq_true rfA
         obtain ⟨ad490, e490, bm⟩ := Kd.at_string (Kd.R_reads' an.out).2.2 aa p490 q490
         cases e490
         replace p490 := eq_true p490
         replace q490 := eq_true q490
         have p491 : 0 ≤ (ab : Int) := of_decide_eq_true rfA
         have q491 : ab < (af.length : Int) := of_decide_eq_true rfA
         obtain ⟨ad491, e491, bo, bp⟩ := at_T55 (Kd.R_reads' ag.out).2.2 ab p491 q491
         cases e491
         replace p491 := eq_true p491
         replace q491 := eq_true q491
         go_wp2
         repeat (go_quiet (first | (go_at_call 47; (with_reducible refine (graftwoodref01_Cmp.calls k2 (rdOf ByteArray.empty ac aa) ((rd_T55 af ab).f0) az _ A15.out).mono ?_); rintro e w' ⟨rfl, ⟨nd, rfl⟩⟩; (try first | exact ⟨rfl, _, World.drewN_drewN _ _ _⟩ | exact ⟨rfl, _, Eq.trans (World.drewN_drewN _ _ _) (congrArg (World.drewN _) (Nat.add_assoc _ _ _))⟩))); try go_wp2)
         go_roundg k2
         case measure => have := HK1.out; have := HK2.out; omega
         case rel => exact ⟨(wrap64 (aa + 1)), rfG, H', ⟨by have := HK1.out; have := HK2.out; omega⟩, ⟨rT an.out⟩, ⟨rT ag.out⟩, ⟨eTx HB.out⟩⟩
        ·have cg := decide_eq_false c16
         clear c16
         replace H := ifP H; rcases H with ⟨c18, H⟩ | ⟨c18, H⟩
         ·have ch : ((rdOf ByteArray.empty ac aa).toList == ((rd_T55 af ab).f0).toList) = true := beq_iff_eq.mpr c18
          have ci : ((rdOf ByteArray.empty ac aa).toList != ((rd_T55 af ab).f0).toList) = false := bne_eq_false_iff_eq.mpr c18
          clear c18
          have H' := Aside0.mk H
          clear H
          obtain ⟨da, db, ct⟩ := Kd.R_slice an.out
          subst ct
          have p490 : 0 ≤ (aa : Int) := of_decide_eq_true rfA
          have q490 : aa < (ac.length : Int) := of_decide_eq_true rfA
          obtain ⟨ad490, e490, bm⟩ := Kd.at_string (Kd.R_reads' an.out).2.2 aa p490 q490
          cases e490
          replace p490 := eq_true p490
          replace q490 := eq_true q490
          have p491 : 0 ≤ (ab : Int) := of_decide_eq_true rfA
          have q491 : ab < (af.length : Int) := of_decide_eq_true rfA
          obtain ⟨ad491, e491, bo, bp⟩ := at_T55 (Kd.R_reads' ag.out).2.2 ab p491 q491
          cases e491
          replace p491 := eq_true p491
          replace q491 := eq_true q491
          go_wp2
          repeat (go_quiet (first | (go_at_call 47; (with_reducible refine (graftwoodref01_Cmp.calls k2 (rdOf ByteArray.empty ac aa) ((rd_T55 af ab).f0) az _ A15.out).mono ?_); rintro e w' ⟨rfl, ⟨nd, rfl⟩⟩; (try first | exact ⟨rfl, _, World.drewN_drewN _ _ _⟩ | exact ⟨rfl, _, Eq.trans (World.drewN_drewN _ _ _) (congrArg (World.drewN _) (Nat.add_assoc _ _ _))⟩); have p493 : 0 ≤ (aa : Int) := of_decide_eq_true rfA; have q493 : aa < (ac.length : Int) := of_decide_eq_true rfA; obtain ⟨ad493, e493, aG⟩ := Kd.at_string (Kd.R_reads' an.out).2.2 aa p493 q493; obtain rfl : ad490 = ad493 := (by injection e493); replace p493 := eq_true p493; replace q493 := eq_true q493; have p494 : 0 ≤ (ab : Int) := of_decide_eq_true rfA; have q494 : ab < (af.length : Int) := of_decide_eq_true rfA; obtain ⟨ad494, e494, aH, aI⟩ := at_T55 (Kd.R_reads' ag.out).2.2 ab p494 q494; obtain rfl : ad491 = ad494 := (by injection e494); replace p494 := eq_true p494; replace q494 := eq_true q494)); try go_wp2)
          go_roundg k2
          case measure => have := HK1.out; have := HK2.out; omega
          case rel => exact ⟨(ac), (wrap64 (ab + 1)), rfG, H', ⟨by have := HK1.out; have := HK2.out; omega⟩, ⟨rT an.out⟩, ⟨rT ag.out⟩, ⟨eTx HB.out⟩⟩
         ·have ch : ((rdOf ByteArray.empty ac aa).toList == ((rd_T55 af ab).f0).toList) = false := beq_eq_false_iff_ne.mpr c18
          have ci : ((rdOf ByteArray.empty ac aa).toList != ((rd_T55 af ab).f0).toList) = true := bne_iff_ne.mpr c18
          replace H := ifN H; obtain ⟨c20, H⟩ := H
          have LMc20 := Aside0.mk c20
          clear c20
          obtain ⟨ah, a4⟩ : ∃ y_ : List ByteArray, y_ = (ac ++ [(⟨#[]⟩ : ByteArray)]) := ⟨_, rfl⟩
          replace H : (if 0 ≤ (wrap64 (aa + 1)) then (if (wrap64 (aa + 1)) ≤ (ah.length : Int) then (if aa ≤ (ah.length : Int) then ((some (shL ah (aa : Int).toNat : List ByteArray)).bind fun aq => (if aa < (aq.length : Int) then (graftwoodref17_paths.l0 k2 (aq.set (aa : Int).toNat ((rd_T55 af ab).f0)) af (wrap64 (ab + 1))) else (none))) else (none)) else (none)) else (none)) = some r := by first | (rw [a4]; with_reducible exact H) | (have H2_ := (Option.bind_some _ _).symm.trans H; rw [a4]; with_reducible exact H2_) | (have H2_ := (Option.bind_some _ _).symm.trans H; with_reducible exact H2_) | with_reducible exact H | (rw [a4]; exact H) | exact H
          have Ny495 := Aside0.mk a4
          clear a4
          obtain ⟨ak, aX⟩ : ∃ j_ : Int, (wrap64 (aa + 1)) = j_ := ⟨_, rfl⟩
          replace H : (if 0 ≤ (ak) then (if (ak) ≤ (ah.length : Int) then (if aa ≤ (ah.length : Int) then ((some (shL ah (aa : Int).toNat : List ByteArray)).bind fun aq => (if aa < (aq.length : Int) then (graftwoodref17_paths.l0 k2 (aq.set (aa : Int).toNat ((rd_T55 af ab).f0)) af (wrap64 (ab + 1))) else (none))) else (none)) else (none)) else (none)) = some r := by first | (rw [aX] at H; exact H) | (simp only [aX] at H ⊢; exact H)
          (try rw [aX] at A15)
          have cu : (IntKind.i64.wrap (aa + 1)) = ak := (i64_w _).trans aX
          replace H := ifN H; obtain ⟨c22, H⟩ := H
          have cF := eq_true c22
          have cG := decide_eq_true c22
          clear c22
          replace H := ifN H; obtain ⟨c23, H⟩ := H
          have cH := eq_true c23
          have cI := decide_eq_true c23
          clear c23
          obtain ⟨aA, a5⟩ : ∃ y_ : List ByteArray, y_ = (ah.drop ((ak) : Int).toNat) := ⟨_, rfl⟩
          replace H : (if aa ≤ (ah.length : Int) then ((some (shL ah (aa : Int).toNat : List ByteArray)).bind fun aq => (if aa < (aq.length : Int) then (graftwoodref17_paths.l0 k2 (aq.set (aa : Int).toNat ((rd_T55 af ab).f0)) af (wrap64 (ab + 1))) else (none))) else (none)) = some r := by first | (rw [a5]; with_reducible exact H) | (have H2_ := (Option.bind_some _ _).symm.trans H; rw [a5]; with_reducible exact H2_) | (have H2_ := (Option.bind_some _ _).symm.trans H; with_reducible exact H2_) | with_reducible exact H | (rw [a5]; exact H) | exact H
          have Ny498 := Aside0.mk a5
          clear a5
          have cJ := eq_true (of_decide_eq_true rfA : 0 ≤ aa)
          replace H := ifN H; obtain ⟨c25, H⟩ := H
          have cK := eq_true c25
          have cL := decide_eq_true c25
          clear c25
          obtain ⟨aC, a6⟩ : ∃ y_ : List ByteArray, y_ = (ah.drop (aa : Int).toNat) := ⟨_, rfl⟩
          replace H : ((some (shL ah (aa : Int).toNat : List ByteArray)).bind fun aq => (if aa < (aq.length : Int) then (graftwoodref17_paths.l0 k2 (aq.set (aa : Int).toNat ((rd_T55 af ab).f0)) af (wrap64 (ab + 1))) else (none))) = some r := by first | (rw [a6]; with_reducible exact H) | (have H2_ := (Option.bind_some _ _).symm.trans H; rw [a6]; with_reducible exact H2_) | (have H2_ := (Option.bind_some _ _).symm.trans H; with_reducible exact H2_) | with_reducible exact H | (rw [a6]; exact H) | exact H
          have Ny502 := Aside0.mk a6
          clear a6
          obtain ⟨aq, a7⟩ : ∃ y_ : List ByteArray, y_ = (shL ah (aa : Int).toNat) := ⟨_, rfl⟩
          replace H : (if aa < (aq.length : Int) then (graftwoodref17_paths.l0 k2 (aq.set (aa : Int).toNat ((rd_T55 af ab).f0)) af (wrap64 (ab + 1))) else (none)) = some r := by first | (rw [a7]; with_reducible exact H) | (have H2_ := (Option.bind_some _ _).symm.trans H; rw [a7]; with_reducible exact H2_) | (have H2_ := (Option.bind_some _ _).symm.trans H; with_reducible exact H2_) | with_reducible exact H | (rw [a7]; exact H) | exact H
          have Ny506 := Aside0.mk a7
          clear a7
          replace H := ifN H; obtain ⟨c26, H⟩ := H
          have cM := decide_eq_true c26
          clear c26
          obtain ⟨bz, a8⟩ : ∃ y_ : List ByteArray, y_ = (aq.set (aa : Int).toNat ((rd_T55 af ab).f0)) := ⟨_, rfl⟩
          replace H : (graftwoodref17_paths.l0 k2 bz af (wrap64 (ab + 1))) = some r := by first | (rw [a8]; with_reducible exact H) | (have H2_ := (Option.bind_some _ _).symm.trans H; rw [a8]; with_reducible exact H2_) | (have H2_ := (Option.bind_some _ _).symm.trans H; with_reducible exact H2_) | with_reducible exact H | (rw [a8]; exact H) | exact H
          have Ny510 := Aside0.mk a8
          clear a8
          have H' := Aside0.mk H
          clear H
          obtain ⟨dc, b5, cv⟩ := Kd.R_slice an.out
          subst cv
          have p490 : 0 ≤ (aa : Int) := of_decide_eq_true rfA
          have q490 : aa < (ac.length : Int) := of_decide_eq_true rfA
          obtain ⟨ad490, e490, bm⟩ := Kd.at_string (Kd.R_reads' an.out).2.2 aa p490 q490
          cases e490
          replace p490 := eq_true p490
          replace q490 := eq_true q490
          have p491 : 0 ≤ (ab : Int) := of_decide_eq_true rfA
          have q491 : ab < (af.length : Int) := of_decide_eq_true rfA
          obtain ⟨ad491, e491, bo, bp⟩ := at_T55 (Kd.R_reads' ag.out).2.2 ab p491 q491
          cases e491
          replace p491 := eq_true p491
          replace q491 := eq_true q491
          go_wp2
          repeat (go_quiet (first | (go_at_call 47; (with_reducible refine (graftwoodref01_Cmp.calls k2 (rdOf ByteArray.empty ac aa) ((rd_T55 af ab).f0) az _ A15.out).mono ?_); rintro e w' ⟨rfl, ⟨nd, rfl⟩⟩; (try first | exact ⟨rfl, _, World.drewN_drewN _ _ _⟩ | exact ⟨rfl, _, Eq.trans (World.drewN_drewN _ _ _) (congrArg (World.drewN _) (Nat.add_assoc _ _ _))⟩); have p493 : 0 ≤ (aa : Int) := of_decide_eq_true rfA; have q493 : aa < (ac.length : Int) := of_decide_eq_true rfA; obtain ⟨ad493, e493, aG⟩ := Kd.at_string (Kd.R_reads' an.out).2.2 aa p493 q493; obtain rfl : ad490 = ad493 := (by injection e493); replace p493 := eq_true p493; replace q493 := eq_true q493; have p494 : 0 ≤ (ab : Int) := of_decide_eq_true rfA; have q494 : ab < (af.length : Int) := of_decide_eq_true rfA; obtain ⟨ad494, e494, aH, aI⟩ := at_T55 (Kd.R_reads' ag.out).2.2 ab p494 q494; obtain rfl : ad491 = ad494 := (by injection e494); replace p494 := eq_true p494; replace q494 := eq_true q494)); try go_wp2_with (first | ((with_reducible refine gate_builtin (b := .append) (xs := #[.tmp 58, .tmp 59]) rfl ?_); at_builtin; refine Kd.R_append Kd.string (w0 := w) w.heap.size rfl (.tmp 58) (.tmp 59) 61 9 (.string ⟨#[]⟩) 16 rfl Tryz.underlying61 info9 rfl (by decide) (by omega) (.slice (some ad490) ac.length b5) ac (⟨#[]⟩ : ByteArray) [.string (⟨#[]⟩ : ByteArray)] (fun _ => True) (fun _ => False) rfl rfl ?aP (fun _ hk => hk.elim) ?aF ?aO ?aB ?aS ?aL ?_; (case aP => exact rfl); (case aB => exact (eTx HB.out)); (case aF => exact (fun _ _ => trivial)); (case aO => exact (rT an.out)); (case aS => exact (below_size (eTx HB.out))); (case aL => have := LMc20.out; omega); intro cj w29 ho hb hg hat; rw [← Ny495.out] at ho; replace ag := am (Kd.R_over' (rT ag.out) (Kd.R_typed (rT an.out)) (by decide) hg); replace HB := am (hb); have ad := am (ho); clear an ho hb hg hat; obtain ⟨aw, ao, bC⟩ := Kd.R_slice ad.out; subst bC; have q30 : ((ak) : Int) ≤ ((ah.length : Int) : Int) := of_decide_eq_true rfA; obtain ⟨i030, hi030, _, hsz30, _⟩ := info_parts info9; have hroom30 : ah.length ≤ ao := (Kd.R_reads' ad.out).2.1; have hC30 : Kd.C Kd.string _ aw ah.length ah := (Kd.R_reads' ad.out).2.2; have q030 : (0 : Int) ≤ ((ak) : Int) := of_decide_eq_true rfA; have hcut30 := cut_from (P := Tryz.prog) 61 9 .i64 Tryz.underlying61 hi030 1 hsz30 aw ah.length ao (ak) q030 q30; have hr30 := Kd.C_drop (m := ((ak) : Int).toNat) (c := ao) hC30 (by omega) hroom30; obtain ⟨A30, hA30⟩ : ∃ A1, A1 = (if ao = ((ak) : Int).toNat then aw else (aw : Option Addr).map (·.add (((ak) : Int).toNat * 1))) := ⟨_, rfl⟩; obtain ⟨c30, hc30⟩ : ∃ c1, c1 = ao - ((ak) : Int).toNat := ⟨_, rfl⟩; have aJ : aA.length = ah.length - ((ak) : Int).toNat := (by rw [Ny498.out, List.length_drop] <;> omega); rw [show (ah).drop ((ak) : Int).toNat = aA from Ny498.out.symm] at hr30; replace hr30 : Kd.C Kd.string _ A30 aA.length aA := (by rw [hA30]; exact hr30); rw [← aJ, ← hA30, ← hc30] at hcut30; have bU := Aside0.mk hr30; have bV := am (show aA.length ≤ c30 from by rw [aJ, hc30]; exact Nat.sub_le_sub_right hroom30 _); clear hr30 hC30 hroom30 hi030 hsz30 hc30; have KY30 := Aside0.mk aJ; have KA30 := Aside0.mk hA30; clear aJ hA30; have KL30 := am (show ((ak) : Int).toNat ≤ ah.length from by omega); replace q30 := eq_true q30; have q32 : (aa : Int) ≤ ((ah.length : Int) : Int) := of_decide_eq_true rfA; obtain ⟨i032, hi032, _, hsz32, _⟩ := info_parts info9; have hroom32 : ah.length ≤ ao := (Kd.R_reads' ad.out).2.1; have hC32 : Kd.C Kd.string _ aw ah.length ah := (Kd.R_reads' ad.out).2.2; have q032 : (0 : Int) ≤ (aa : Int) := of_decide_eq_true rfA; have hcut32 := cut_from (P := Tryz.prog) 61 9 .i64 Tryz.underlying61 hi032 1 hsz32 aw ah.length ao aa q032 q32; have hr32 := Kd.C_drop (m := (aa : Int).toNat) (c := ao) hC32 (by omega) hroom32; obtain ⟨A32, hA32⟩ : ∃ A1, A1 = (if ao = (aa : Int).toNat then aw else (aw : Option Addr).map (·.add ((aa : Int).toNat * 1))) := ⟨_, rfl⟩; obtain ⟨c32, hc32⟩ : ∃ c1, c1 = ao - (aa : Int).toNat := ⟨_, rfl⟩; have aK : aC.length = ah.length - (aa : Int).toNat := (by rw [Ny502.out, List.length_drop] <;> omega); rw [show (ah).drop (aa : Int).toNat = aC from Ny502.out.symm] at hr32; replace hr32 : Kd.C Kd.string _ A32 aC.length aC := (by rw [hA32]; exact hr32); rw [← aK, ← hA32, ← hc32] at hcut32; have bW := Aside0.mk hr32; have bX := am (show aC.length ≤ c32 from by rw [aK, hc32]; exact Nat.sub_le_sub_right hroom32 _); clear hr32 hC32 hroom32 hi032 hsz32 hc32; have KY32 := Aside0.mk aK; have KA32 := Aside0.mk hA32; clear aK hA32; have KL32 := am (show (aa : Int).toNat ≤ ah.length from by omega); replace q32 := eq_true q32)))
          have hj_ : 0 ≤ (aa : Int) := of_decide_eq_true rfA
          have hl_ : (ak : Int) ≤ (ah.length : Int) := of_decide_eq_true rfA
          have hh_ : (aa : Int) ≤ (ah.length : Int) := of_decide_eq_true rfA
          have hb_ := (Kd.R_reads' ad.out).2.2.2.1
          have h0_ : (0 : Int) ≤ (ak : Int) := of_decide_eq_true rfA
          have hk_ : (ak : Int).toNat = (aa : Int).toNat + 1 := (by have hw_ : (ak : Int) = aa + 1 := (by have h00_ := h0_; rw [← aX] at h00_ ⊢; unfold wrap64 at h00_ ⊢; omega); rw [hw_]; omega)
          obtain ⟨gd34, cap_, ev_, _⟩ := Kd.R_form ad.out (by omega)
          injection ev_ with ea_ _ ec_; subst ec_
          subst ea_
          refine start_ (n := 8) (S := fun _ => True) (ds := []) (bA 8 0) rfK rfl rfK trivial (fun hHeld => ?_)
          refine with_tabW graftwoodref17_paths.tabC graftwoodref17_paths.bitsC (fun HT_ HW_ => ?_)
          iterate 7 refine zT HT_ ?_
          refine zO HT_ fun K hK => ?_
          refine R_shift_step Kd.string (w0 := w) w.heap.size rfl (.tmp 64) (.tmp 67) 61 9 rfl Tryz.underlying61 rfK (g := gd34) (n := ah.length) (c := ao) (k := (aa : Int).toNat) rfl rfl ?hA1 ?hm1 ?hA2 ?hm2 (rT ad.out) ?hk (eTx HB.out) (below_size (eTx HB.out)) ?_
          (case hA1 => have ha_ := KA30.out; rw [hk_] at ha_; exact ha_)
          (case hm1 => have ha_ := KY30.out; omega)
          (case hA2 => exact KA32.out)
          (case hm2 => exact KY32.out)
          (case hk => omega)
          intro w33 z_ ho hb hg
          refine hK.out _ _ trivial (fun hHeld => ?_)
          clear hK K
          refine mN _ ?_
          refine zD HT_ ?_
          clear hj_ hl_ hh_ hb_ hk_ h0_
          rw [← Ny506.out] at ho
          have hn_ : ah.length = aq.length := (Kd.R_reads' ho).1
          rw [hn_] at ho ⊢
          clear hn_
          replace ag := am (Kd.R_over' (v := (.slice (some ⟨gd34, 0, none⟩) ah.length ao)) (rT ag.out) (Kd.R_typed (rT ad.out)) (by decide) hg)
          replace HB := am (hb)
          replace ad := am (ho)
          clear ho hb hg
          have p509 : 0 ≤ (ab : Int) := of_decide_eq_true rfA
          have q509 : ab < (af.length : Int) := of_decide_eq_true rfA
          obtain ⟨ad509, e509, bq, br⟩ := at_T55 (Kd.R_reads' ag.out).2.2 ab p509 q509
          obtain rfl : ad491 = ad509 := (by injection e509)
          replace p509 := eq_true p509
          replace q509 := eq_true q509
          have p27 : 0 ≤ (aa : Int) := of_decide_eq_true rfA
          have q27 : (aa : Int) < ((aq.length : Int) : Int) := of_decide_eq_true rfA
          obtain ⟨go27, ck, a9, a_, gl27, cl27, HG27⟩ := Kd.R_form ad.out (by omega)
          (first | cases a9 | (injection a9 with ea_ en_ ec_; (first | subst ea_ | (injection ea_ with ea_; subst ea_)); subst ec_; clear en_))
          have GB27 := Aside0.mk a_
          have GG27 := Aside0.mk HG27
          clear a_ gl27 HG27
          obtain ⟨bD, bE⟩ := Kd.R_celln (⟨#[]⟩ : ByteArray) ad.out (aa : Int) p27 q27
          replace p27 := eq_true p27
          replace q27 := eq_true q27
          obtain ⟨bb, hz35_⟩ := Kd.R_celln (⟨#[]⟩ : ByteArray) ad.out (aa : Int) (of_decide_eq_true rfA) (of_decide_eq_true rfA)
          have HP35 := Kd.R_putg ad.out (aa : Int) ((rd_T55 af ab).f0)
          go_wp2_with (first | ((with_reducible refine gate_store (t := 9) (p := 76) rfl ?_); (try (rw [drewN_self w33]; generalize hq_ : World.drewN w33 _ = w33; replace ag := am (Kd.R_at hq_ ag.out); replace ad := am (Kd.R_at hq_ ad.out); replace HB := am (below_at hq_ HB.out); clear hq_; (try (obtain ⟨bb, hz35_⟩ := Kd.R_celln (⟨#[]⟩ : ByteArray) ad.out (aa : Int) (of_decide_eq_true rfA) (of_decide_eq_true rfA))); (try (have HP35 := Kd.R_putg ad.out (aa : Int) ((rd_T55 af ab).f0))))); refine store_event (t := 9) (p := 76) (v := ?vo_w36) (w1 := (w33.setCell ⟨gd34, (aa : Int).toNat, none⟩ (.string ((rd_T55 af ab).f0)))) ?hg ?ho ?hn ?hr ?_; (case ho => rfl); (case hg => rfl); (case hn => rfl); (case hr => first | (go_simp; done) | (go_simp; rfl)); intro w36 hw; have hg : w33.grownBy w36 (some gd34) := (by rw [hw]; exact HP35.2); have hp_ : Kd.R Kd.string 9 w36 w.heap.size (fun _ => True) (.slice (some ⟨gd34, 0, none⟩) aq.length ao) bz := (by rw [hw, Ny510.out]; exact HP35.1); clear HP35; replace ag := am (Kd.R_over' (v := (.slice (some ⟨gd34, 0, none⟩) aq.length ao)) (rT ag.out) (Kd.R_typed ad.out) (by decide) hg); replace HB := am ((by rw [hw]; exact below_set (HB.out) GB27.out : Below w.heap.size w w36)); replace ad := am (hp_); clear hg hw hp_))
          go_roundg k2
          case measure => have := HK1.out; have := HK2.out; omega
          case rel => exact ⟨(bz), (wrap64 (ab + 1)), rfG, H', ⟨by have := HK1.out; have := HK2.out; omega⟩, ⟨rT ad.out⟩, ⟨rT ag.out⟩, ⟨eTx HB.out⟩⟩
       ·have ce := decide_eq_false c11
        clear c11
        replace H := ifN H; obtain ⟨c37, H⟩ := H
        have LMc37 := Aside0.mk c37
        clear c37
        obtain ⟨ai, bc⟩ : ∃ y_ : List ByteArray, y_ = (ac ++ [(⟨#[]⟩ : ByteArray)]) := ⟨_, rfl⟩
        replace H : (if 0 ≤ (wrap64 (aa + 1)) then (if (wrap64 (aa + 1)) ≤ (ai.length : Int) then (if 0 ≤ aa then (if aa ≤ (ai.length : Int) then ((some (shL ai (aa : Int).toNat : List ByteArray)).bind fun ar => (if 0 ≤ ab then (if ab < (af.length : Int) then (if aa < (ar.length : Int) then (graftwoodref17_paths.l0 k2 (ar.set (aa : Int).toNat ((rd_T55 af ab).f0)) af (wrap64 (ab + 1))) else (none)) else (none)) else (none))) else (none)) else (none)) else (none)) else (none)) = some r := by first | (rw [bc]; with_reducible exact H) | (have H2_ := (Option.bind_some _ _).symm.trans H; rw [bc]; with_reducible exact H2_) | (have H2_ := (Option.bind_some _ _).symm.trans H; with_reducible exact H2_) | with_reducible exact H | (rw [bc]; exact H) | exact H
        have Ny511 := Aside0.mk bc
        clear bc
        obtain ⟨al, aY⟩ : ∃ j_ : Int, (wrap64 (aa + 1)) = j_ := ⟨_, rfl⟩
        replace H : (if 0 ≤ (al) then (if (al) ≤ (ai.length : Int) then (if 0 ≤ aa then (if aa ≤ (ai.length : Int) then ((some (shL ai (aa : Int).toNat : List ByteArray)).bind fun ar => (if 0 ≤ ab then (if ab < (af.length : Int) then (if aa < (ar.length : Int) then (graftwoodref17_paths.l0 k2 (ar.set (aa : Int).toNat ((rd_T55 af ab).f0)) af (wrap64 (ab + 1))) else (none)) else (none)) else (none))) else (none)) else (none)) else (none)) else (none)) = some r := by first | (rw [aY] at H; exact H) | (simp only [aY] at H ⊢; exact H)
        have cw : (IntKind.i64.wrap (aa + 1)) = al := (i64_w _).trans aY
        replace H := ifN H; obtain ⟨c39, H⟩ := H
        have cN := eq_true c39
        have cO := decide_eq_true c39
        clear c39
        replace H := ifN H; obtain ⟨c40, H⟩ := H
        have cP := eq_true c40
        have cQ := decide_eq_true c40
        clear c40
        obtain ⟨aD, be⟩ : ∃ y_ : List ByteArray, y_ = (ai.drop ((al) : Int).toNat) := ⟨_, rfl⟩
        replace H : (if 0 ≤ aa then (if aa ≤ (ai.length : Int) then ((some (shL ai (aa : Int).toNat : List ByteArray)).bind fun ar => (if 0 ≤ ab then (if ab < (af.length : Int) then (if aa < (ar.length : Int) then (graftwoodref17_paths.l0 k2 (ar.set (aa : Int).toNat ((rd_T55 af ab).f0)) af (wrap64 (ab + 1))) else (none)) else (none)) else (none))) else (none)) else (none)) = some r := by first | (rw [be]; with_reducible exact H) | (have H2_ := (Option.bind_some _ _).symm.trans H; rw [be]; with_reducible exact H2_) | (have H2_ := (Option.bind_some _ _).symm.trans H; with_reducible exact H2_) | with_reducible exact H | (rw [be]; exact H) | exact H
        have Ny514 := Aside0.mk be
        clear be
        replace H := ifN H; obtain ⟨c41, H⟩ := H
        have cR := eq_true c41
        have cS := decide_eq_true c41
        clear c41
        replace H := ifN H; obtain ⟨c42, H⟩ := H
        have cU := eq_true c42
        have cV := decide_eq_true c42
        clear c42
        obtain ⟨aE, bf⟩ : ∃ y_ : List ByteArray, y_ = (ai.drop (aa : Int).toNat) := ⟨_, rfl⟩
        replace H : ((some (shL ai (aa : Int).toNat : List ByteArray)).bind fun ar => (if 0 ≤ ab then (if ab < (af.length : Int) then (if aa < (ar.length : Int) then (graftwoodref17_paths.l0 k2 (ar.set (aa : Int).toNat ((rd_T55 af ab).f0)) af (wrap64 (ab + 1))) else (none)) else (none)) else (none))) = some r := by first | (rw [bf]; with_reducible exact H) | (have H2_ := (Option.bind_some _ _).symm.trans H; rw [bf]; with_reducible exact H2_) | (have H2_ := (Option.bind_some _ _).symm.trans H; with_reducible exact H2_) | with_reducible exact H | (rw [bf]; exact H) | exact H
        have Ny518 := Aside0.mk bf
        clear bf
        obtain ⟨ar, bg⟩ : ∃ y_ : List ByteArray, y_ = (shL ai (aa : Int).toNat) := ⟨_, rfl⟩
        replace H : (if 0 ≤ ab then (if ab < (af.length : Int) then (if aa < (ar.length : Int) then (graftwoodref17_paths.l0 k2 (ar.set (aa : Int).toNat ((rd_T55 af ab).f0)) af (wrap64 (ab + 1))) else (none)) else (none)) else (none)) = some r := by first | (rw [bg]; with_reducible exact H) | (have H2_ := (Option.bind_some _ _).symm.trans H; rw [bg]; with_reducible exact H2_) | (have H2_ := (Option.bind_some _ _).symm.trans H; with_reducible exact H2_) | with_reducible exact H | (rw [bg]; exact H) | exact H
        have Ny522 := Aside0.mk bg
        clear bg
        replace H := ifN H; obtain ⟨c43, H⟩ := H
        have cX := decide_eq_true c43
        clear c43
        replace H := ifN H; obtain ⟨c44, H⟩ := H
        have cY := decide_eq_true c44
        clear c44
        replace H := ifN H; obtain ⟨c45, H⟩ := H
        have cZ := decide_eq_true c45
        clear c45
        obtain ⟨bF, bh⟩ : ∃ y_ : List ByteArray, y_ = (ar.set (aa : Int).toNat ((rd_T55 af ab).f0)) := ⟨_, rfl⟩
        replace H : (graftwoodref17_paths.l0 k2 bF af (wrap64 (ab + 1))) = some r := by first | (rw [bh]; with_reducible exact H) | (have H2_ := (Option.bind_some _ _).symm.trans H; rw [bh]; with_reducible exact H2_) | (have H2_ := (Option.bind_some _ _).symm.trans H; with_reducible exact H2_) | with_reducible exact H | (rw [bh]; exact H) | exact H
        have Ny526 := Aside0.mk bh
        clear bh
        have H' := Aside0.mk H
        clear H
        obtain ⟨b6, b7, cx⟩ := Kd.R_slice an.out
        subst cx
        go_wp2
        repeat (go_quiet (fail); try go_wp2_with (first | ((with_reducible refine gate_builtin (b := .append) (xs := #[.tmp 58, .tmp 59]) rfl ?_); at_builtin; refine Kd.R_append Kd.string (w0 := w) w.heap.size rfl (.tmp 58) (.tmp 59) 61 9 (.string ⟨#[]⟩) 16 rfl Tryz.underlying61 info9 rfl (by decide) (by omega) (.slice b6 ac.length b7) ac (⟨#[]⟩ : ByteArray) [.string (⟨#[]⟩ : ByteArray)] (fun _ => True) (fun _ => False) rfl rfl ?aP (fun _ hk => hk.elim) ?aF ?aO ?aB ?aS ?aL ?_; (case aP => exact rfl); (case aB => exact (eTx HB.out)); (case aF => exact (fun _ _ => trivial)); (case aO => exact (rT an.out)); (case aS => exact (below_size (eTx HB.out))); (case aL => have := LMc37.out; omega); intro cl w48 ho hb hg hat; rw [← Ny511.out] at ho; replace ag := am (Kd.R_over' (rT ag.out) (Kd.R_typed (rT an.out)) (by decide) hg); replace HB := am (hb); have ae := am (ho); clear an ho hb hg hat; obtain ⟨ax, ap, bG⟩ := Kd.R_slice ae.out; subst bG; have q49 : ((al) : Int) ≤ ((ai.length : Int) : Int) := of_decide_eq_true rfA; obtain ⟨i049, hi049, _, hsz49, _⟩ := info_parts info9; have hroom49 : ai.length ≤ ap := (Kd.R_reads' ae.out).2.1; have hC49 : Kd.C Kd.string _ ax ai.length ai := (Kd.R_reads' ae.out).2.2; have q049 : (0 : Int) ≤ ((al) : Int) := of_decide_eq_true rfA; have hcut49 := cut_from (P := Tryz.prog) 61 9 .i64 Tryz.underlying61 hi049 1 hsz49 ax ai.length ap (al) q049 q49; have hr49 := Kd.C_drop (m := ((al) : Int).toNat) (c := ap) hC49 (by omega) hroom49; obtain ⟨A49, hA49⟩ : ∃ A1, A1 = (if ap = ((al) : Int).toNat then ax else (ax : Option Addr).map (·.add (((al) : Int).toNat * 1))) := ⟨_, rfl⟩; obtain ⟨c49, hc49⟩ : ∃ c1, c1 = ap - ((al) : Int).toNat := ⟨_, rfl⟩; have aM : aD.length = ai.length - ((al) : Int).toNat := (by rw [Ny514.out, List.length_drop] <;> omega); rw [show (ai).drop ((al) : Int).toNat = aD from Ny514.out.symm] at hr49; replace hr49 : Kd.C Kd.string _ A49 aD.length aD := (by rw [hA49]; exact hr49); rw [← aM, ← hA49, ← hc49] at hcut49; have bZ := Aside0.mk hr49; have b0 := am (show aD.length ≤ c49 from by rw [aM, hc49]; exact Nat.sub_le_sub_right hroom49 _); clear hr49 hC49 hroom49 hi049 hsz49 hc49; have KY49 := Aside0.mk aM; have KA49 := Aside0.mk hA49; clear aM hA49; have KL49 := am (show ((al) : Int).toNat ≤ ai.length from by omega); replace q49 := eq_true q49; have q51 : (aa : Int) ≤ ((ai.length : Int) : Int) := of_decide_eq_true rfA; obtain ⟨i051, hi051, _, hsz51, _⟩ := info_parts info9; have hroom51 : ai.length ≤ ap := (Kd.R_reads' ae.out).2.1; have hC51 : Kd.C Kd.string _ ax ai.length ai := (Kd.R_reads' ae.out).2.2; have q051 : (0 : Int) ≤ (aa : Int) := of_decide_eq_true rfA; have hcut51 := cut_from (P := Tryz.prog) 61 9 .i64 Tryz.underlying61 hi051 1 hsz51 ax ai.length ap aa q051 q51; have hr51 := Kd.C_drop (m := (aa : Int).toNat) (c := ap) hC51 (by omega) hroom51; obtain ⟨A51, hA51⟩ : ∃ A1, A1 = (if ap = (aa : Int).toNat then ax else (ax : Option Addr).map (·.add ((aa : Int).toNat * 1))) := ⟨_, rfl⟩; obtain ⟨c51, hc51⟩ : ∃ c1, c1 = ap - (aa : Int).toNat := ⟨_, rfl⟩; have aN : aE.length = ai.length - (aa : Int).toNat := (by rw [Ny518.out, List.length_drop] <;> omega); rw [show (ai).drop (aa : Int).toNat = aE from Ny518.out.symm] at hr51; replace hr51 : Kd.C Kd.string _ A51 aE.length aE := (by rw [hA51]; exact hr51); rw [← aN, ← hA51, ← hc51] at hcut51; have b1 := Aside0.mk hr51; have b2 := am (show aE.length ≤ c51 from by rw [aN, hc51]; exact Nat.sub_le_sub_right hroom51 _); clear hr51 hC51 hroom51 hi051 hsz51 hc51; have KY51 := Aside0.mk aN; have KA51 := Aside0.mk hA51; clear aN hA51; have KL51 := am (show (aa : Int).toNat ≤ ai.length from by omega); replace q51 := eq_true q51)))
        have hj_ : 0 ≤ (aa : Int) := of_decide_eq_true rfA
        have hl_ : (al : Int) ≤ (ai.length : Int) := of_decide_eq_true rfA
        have hh_ : (aa : Int) ≤ (ai.length : Int) := of_decide_eq_true rfA
        have hb_ := (Kd.R_reads' ae.out).2.2.2.1
        have h0_ : (0 : Int) ≤ (al : Int) := of_decide_eq_true rfA
        have hk_ : (al : Int).toNat = (aa : Int).toNat + 1 := (by have hw_ : (al : Int) = aa + 1 := (by have h00_ := h0_; rw [← aY] at h00_ ⊢; unfold wrap64 at h00_ ⊢; omega); rw [hw_]; omega)
        obtain ⟨gd53, cap_, ev_, _⟩ := Kd.R_form ae.out (by omega)
        injection ev_ with ea_ _ ec_; subst ec_
        subst ea_
        refine start_ (n := 8) (S := fun _ => True) (ds := []) (bA 8 0) rfK rfl rfK trivial (fun hHeld => ?_)
        refine with_tabW graftwoodref17_paths.tabC graftwoodref17_paths.bitsC (fun HT_ HW_ => ?_)
        iterate 7 refine zT HT_ ?_
        refine zO HT_ fun K hK => ?_
        refine R_shift_step Kd.string (w0 := w) w.heap.size rfl (.tmp 64) (.tmp 67) 61 9 rfl Tryz.underlying61 rfK (g := gd53) (n := ai.length) (c := ap) (k := (aa : Int).toNat) rfl rfl ?hA1 ?hm1 ?hA2 ?hm2 (rT ae.out) ?hk (eTx HB.out) (below_size (eTx HB.out)) ?_
        (case hA1 => have ha_ := KA49.out; rw [hk_] at ha_; exact ha_)
        (case hm1 => have ha_ := KY49.out; omega)
        (case hA2 => exact KA51.out)
        (case hm2 => exact KY51.out)
        (case hk => omega)
        intro w52 z_ ho hb hg
        refine hK.out _ _ trivial (fun hHeld => ?_)
        clear hK K
        refine mN _ ?_
        refine zD HT_ ?_
        clear hj_ hl_ hh_ hb_ hk_ h0_
        rw [← Ny522.out] at ho
        have hn_ : ai.length = ar.length := (Kd.R_reads' ho).1
        rw [hn_] at ho ⊢
        clear hn_
        replace ag := am (Kd.R_over' (v := (.slice (some ⟨gd53, 0, none⟩) ai.length ap)) (rT ag.out) (Kd.R_typed (rT ae.out)) (by decide) hg)
        replace HB := am (hb)
        replace ae := am (ho)
        clear ho hb hg
        have p525 : 0 ≤ (ab : Int) := of_decide_eq_true rfA
        have q525 : ab < (af.length : Int) := of_decide_eq_true rfA
        obtain ⟨ad525, e525, bs, bt⟩ := at_T55 (Kd.R_reads' ag.out).2.2 ab p525 q525
        cases e525
        replace p525 := eq_true p525
        replace q525 := eq_true q525
        have p46 : 0 ≤ (aa : Int) := of_decide_eq_true rfA
        have q46 : (aa : Int) < ((ar.length : Int) : Int) := of_decide_eq_true rfA
        obtain ⟨go46, cm, bi, bj, gl46, cl46, HG46⟩ := Kd.R_form ae.out (by omega)
        (first | cases bi | (injection bi with ea_ en_ ec_; (first | subst ea_ | (injection ea_ with ea_; subst ea_)); subst ec_; clear en_))
        have GB46 := Aside0.mk bj
        have GG46 := Aside0.mk HG46
        clear bj gl46 HG46
        obtain ⟨bH, bI⟩ := Kd.R_celln (⟨#[]⟩ : ByteArray) ae.out (aa : Int) p46 q46
        replace p46 := eq_true p46
        replace q46 := eq_true q46
        obtain ⟨bk, hz54_⟩ := Kd.R_celln (⟨#[]⟩ : ByteArray) ae.out (aa : Int) (of_decide_eq_true rfA) (of_decide_eq_true rfA)
        have HP54 := Kd.R_putg ae.out (aa : Int) ((rd_T55 af ab).f0)
        go_wp2_with (first | ((with_reducible refine gate_store (t := 9) (p := 76) rfl ?_); (try (rw [drewN_self w52]; generalize hq_ : World.drewN w52 _ = w52; replace ag := am (Kd.R_at hq_ ag.out); replace ae := am (Kd.R_at hq_ ae.out); replace HB := am (below_at hq_ HB.out); clear hq_; (try (obtain ⟨bk, hz54_⟩ := Kd.R_celln (⟨#[]⟩ : ByteArray) ae.out (aa : Int) (of_decide_eq_true rfA) (of_decide_eq_true rfA))); (try (have HP54 := Kd.R_putg ae.out (aa : Int) ((rd_T55 af ab).f0))))); refine store_event (t := 9) (p := 76) (v := ?vo_w55) (w1 := (w52.setCell ⟨gd53, (aa : Int).toNat, none⟩ (.string ((rd_T55 af ab).f0)))) ?hg ?ho ?hn ?hr ?_; (case ho => rfl); (case hg => rfl); (case hn => rfl); (case hr => first | (go_simp; done) | (go_simp; rfl)); intro w55 hw; have hg : w52.grownBy w55 (some gd53) := (by rw [hw]; exact HP54.2); have hp_ : Kd.R Kd.string 9 w55 w.heap.size (fun _ => True) (.slice (some ⟨gd53, 0, none⟩) ar.length ap) bF := (by rw [hw, Ny526.out]; exact HP54.1); clear HP54; replace ag := am (Kd.R_over' (v := (.slice (some ⟨gd53, 0, none⟩) ar.length ap)) (rT ag.out) (Kd.R_typed ae.out) (by decide) hg); replace HB := am ((by rw [hw]; exact below_set (HB.out) GB46.out : Below w.heap.size w w55)); replace ae := am (hp_); clear hg hw hp_))
        go_roundg k2
        case measure => have := HK1.out; have := HK2.out; omega
        case rel => exact ⟨(bF), (wrap64 (ab + 1)), rfG, H', ⟨by have := HK1.out; have := HK2.out; omega⟩, ⟨rT ae.out⟩, ⟨rT ag.out⟩, ⟨eTx HB.out⟩⟩
    ·have bR := decide_eq_false c9
     clear c9
     obtain rfl := smI H
     obtain ⟨dd, de, cy⟩ := Kd.R_slice ag.out
     subst cy
     go_wp2
     repeat (go_quiet (fail); try go_wp2)
     go_ret
     exact ⟨_, rfF, by (with_reducible repeat (first | apply Kd.R_alloc | apply Kd.R_drewN | apply Kd.R_drew)); exact an.out, eTx HB.out⟩
 ·exact absurd H (by simp)

/-! ### graftwoodref17_Delta: function 28 -/
def graftwoodref17_Delta.l0 : Nat → List (S55) → List (S55) → List (S75) → List ByteArray → Int → Option ((List (S75)))
 | 0, _, _, _, _, _ => none
 | k + 1, x0, x1, x5, x6, x7 => if x7 < (x6.length : Int) then (if 0 ≤ x7 then ((graftwoodref17_Pick.f k x0 (rdOf ByteArray.empty x6 x7)).bind fun av => ((graftwoodref17_Pick.f k x1 (rdOf ByteArray.empty x6 x7)).bind fun au => (if av.toList = au.toList then (graftwoodref17_Delta.l0 k x0 x1 x5 x6 (wrap64 (x7 + 1))) else (if x5.length < 2932031007402 then (graftwoodref17_Delta.l0 k x0 x1 (x5 ++ [(⟨rdOf ByteArray.empty x6 x7, av, au⟩ : S75)]) x6 (wrap64 (x7 + 1))) else (none))))) else (none)) else (some x5)
def graftwoodref17_Delta.f (k : Nat) (l0 : List (S55)) (l1 : List (S55)) : Option ((List (S75))) := (graftwoodref17_paths.f k l0 l1).bind fun aj => (graftwoodref17_Delta.l0 k l0 l1 ([] : List (S75)) aj 0)
theorem graftwoodref17_Delta.mono_l : ∀ k, (∀ y0 y1 y2 y3 y4, LeO (graftwoodref17_Delta.l0 k y0 y1 y2 y3 y4) (graftwoodref17_Delta.l0 (k + 1) y0 y1 y2 y3 y4))
 | 0 => fun _ _ _ _ _ r h => by simp [graftwoodref17_Delta.l0] at h
 | k + 1 => by
  have ih0 := graftwoodref17_Delta.mono_l k
  ·intro y0 y1 y2 y3 y4
   unfold graftwoodref17_Delta.l0
   repeat' first | (with_reducible first | apply ih0 | apply graftwoodref17_Pick.mono | apply graftwoodref17_paths.mono | apply LeO.refl | apply LeO.none | apply LeO.ite | refine LeO.bind ?_ (fun _ => ?_)) | apply ih0 | apply graftwoodref17_Pick.mono | apply graftwoodref17_paths.mono | exact LeO.none _ | refine LeO.ite ?_ ?_ | refine LeO.bind ?_ (fun _ => ?_)
theorem graftwoodref17_Delta.mono : ∀ a0 a1 k, LeO (graftwoodref17_Delta.f k a0 a1) (graftwoodref17_Delta.f (k + 1) a0 a1) := by
 intro a0 a1 k
 have ih0 := graftwoodref17_Delta.mono_l k
 unfold graftwoodref17_Delta.f
 repeat' first | (with_reducible first | apply ih0 | apply graftwoodref17_Pick.mono | apply graftwoodref17_paths.mono | apply LeO.refl | apply LeO.none | apply LeO.ite | refine LeO.bind ?_ (fun _ => ?_)) | apply ih0 | apply graftwoodref17_Pick.mono | apply graftwoodref17_paths.mono | exact LeO.none _ | refine LeO.ite ?_ ?_ | refine LeO.bind ?_ (fun _ => ?_)
theorem graftwoodref17_Delta.calls (k : Nat) (A0 : Option Addr) (c0 : Nat) (l0 : List (S55)) (A1 : Option Addr) (c1 : Nat) (l1 : List (S55)) (r : List (S75)) (w : World) (hr0 : Kd.C k55 w A0 l0.length l0) (hc0 : l0.length ≤ c0) (hr1 : Kd.C k55 w A1 l1.length l1) (hc1 : l1.length ≤ c1) (h : graftwoodref17_Delta.f k l0 l1 = some r) :
  Calls Tryz.prog 28 #[.slice A0 l0.length c0, .slice A1 l1.length c1] w fun e w' => ∃ v0_ : Value, e = .returned (v0_) ∧ Kd.R k75 75 w' w.heap.size (fun _ => True) v0_ r ∧ Below w.heap.size w w' := by
 have hu75 := Tryz.underlying75
 have HR0 := Aside0.mk hr0
 have HC0 := Aside0.mk hc0
 clear hr0 hc0
 have HR1 := Aside0.mk hr1
 have HC1 := Aside0.mk hc1
 clear hr1 hc1
 have HB := am (Below.refl w.heap.size w)
 unfold graftwoodref17_Delta.f at h; have H := h; clear h
 replace H := bnd H; obtain ⟨aj, A3, H⟩ := H
 have H' := Aside0.mk H
 clear H
 go_enter Tryz.func28, Tryz.ntmps28
 go_wp2_with (first | (go_at_call 50; (with_reducible refine (graftwoodref17_paths.calls k _ _ l0 _ _ l1 aj _ (cW (HR0.out)) HC0.out (cW (HR1.out)) HC1.out A3.out).mono ?_); rintro e w4 ⟨b8, rfl, ho0, hb⟩; have bJ := am (Kd.R_lower ho0 (below_size (eTx HB.out))); replace HB := am (sTx HB.out hb)))
 go_loopg [5, 7] k (fun kq v5 v7 w' => ∃ (ac : List (S75)) (ab : Int), v7 = .int .i64 ab ∧ Aside0 (graftwoodref17_Delta.l0 kq l0 l1 ac aj ab = some r) ∧ Aside0 (kq ≤ k) ∧ Aside0 (Kd.R k75 75 w' w.heap.size (fun _ => True) v5 ac) ∧ Aside0 (Kd.R Kd.string 9 w' w.heap.size (fun _ => True) b8 aj) ∧ Aside0 (Below w.heap.size w w'))
 case atStart => exact ⟨(([] : List (S75))), (0), rfG, H', ⟨Nat.le_refl _⟩, ⟨rfM⟩, ⟨rT bJ.out⟩, ⟨eTx HB.out⟩⟩
 case round =>
  clear H'
  obtain ⟨ac, ab, rfl, HA, HK1, an, ag, HB⟩ := hrel
  cases gk with
  | zero => exact absurd HA.out (by simp [graftwoodref17_Delta.l0])
  | succ k1 =>
   have H := HA.out
   clear HA
   simp only [graftwoodref17_Delta.l0] at H
   replace H := ifP H; rcases H with ⟨c5, H⟩ | ⟨c5, H⟩
   ·have cb := decide_eq_true c5
    clear c5
    replace H := ifN H; obtain ⟨c6, H⟩ := H
    have cq := decide_eq_true c6
    clear c6
    replace H := bnd H; obtain ⟨av, A7, H⟩ := H
    replace H := bnd H; obtain ⟨au, A8, H⟩ := H
    replace H := ifP H; rcases H with ⟨c9, H⟩ | ⟨c9, H⟩
    ·have bR := beq_iff_eq.mpr c9
     have cz := bne_eq_false_iff_eq.mpr c9
     clear c9
     have H' := Aside0.mk H
     clear H
     obtain ⟨cc, cd, b4⟩ := Kd.R_slice ag.out
     subst b4
     have p530 : 0 ≤ (ab : Int) := of_decide_eq_true rfA
     have q530 : ab < (aj.length : Int) := of_decide_eq_true rfA
     obtain ⟨ad530, e530, bS⟩ := Kd.at_string (Kd.R_reads' ag.out).2.2 ab p530 q530
     cases e530
     replace p530 := eq_true p530
     replace q530 := eq_true q530
     go_wp2
     repeat (go_quiet (first | (go_at_call 19; (with_reducible refine (graftwoodref17_Pick.calls k1 _ _ l0 (rdOf ByteArray.empty aj ab) av _ (cW (Kd.C_below HR0.out HB.out)) HC0.out A7.out).mono ?_); rintro e w' ⟨rfl, ⟨nd, rfl⟩⟩; (try first | exact ⟨rfl, _, World.drewN_drewN _ _ _⟩ | exact ⟨rfl, _, Eq.trans (World.drewN_drewN _ _ _) (congrArg (World.drewN _) (Nat.add_assoc _ _ _))⟩); have p532 : 0 ≤ (ab : Int) := of_decide_eq_true rfA; have q532 : ab < (aj.length : Int) := of_decide_eq_true rfA; obtain ⟨ad532, e532, aQ⟩ := Kd.at_string (Kd.R_reads' ag.out).2.2 ab p532 q532; obtain rfl : ad530 = ad532 := (by injection e532); replace p532 := eq_true p532; replace q532 := eq_true q532) | (go_at_call 19; (with_reducible refine (graftwoodref17_Pick.calls k1 _ _ l1 (rdOf ByteArray.empty aj ab) au _ (cW (Kd.C_below HR1.out (eTx HB.out))) HC1.out A8.out).mono ?_); rintro e w' ⟨rfl, ⟨nd, rfl⟩⟩; (try first | exact ⟨rfl, _, World.drewN_drewN _ _ _⟩ | exact ⟨rfl, _, Eq.trans (World.drewN_drewN _ _ _) (congrArg (World.drewN _) (Nat.add_assoc _ _ _))⟩))); try go_wp2)
     go_roundg k1
     case measure => have := HK1.out; omega
     case rel => exact ⟨(ac), (wrap64 (ab + 1)), rfG, H', ⟨by have := HK1.out; omega⟩, ⟨rT an.out⟩, ⟨rT ag.out⟩, ⟨eTx HB.out⟩⟩
    ·have bR := beq_eq_false_iff_ne.mpr c9
     have cz := bne_iff_ne.mpr c9
     replace H := ifN H; obtain ⟨c11, H⟩ := H
     have LMc11 := Aside0.mk c11
     clear c11
     obtain ⟨cn, bl⟩ : ∃ y_ : List (S75), y_ = (ac ++ [(⟨rdOf ByteArray.empty aj ab, av, au⟩ : S75)]) := ⟨_, rfl⟩
     replace H : (graftwoodref17_Delta.l0 k1 l0 l1 cn aj (wrap64 (ab + 1))) = some r := by first | (rw [bl]; with_reducible exact H) | (have H2_ := (Option.bind_some _ _).symm.trans H; rw [bl]; with_reducible exact H2_) | (have H2_ := (Option.bind_some _ _).symm.trans H; with_reducible exact H2_) | with_reducible exact H | (rw [bl]; exact H) | exact H
     have Ny535 := Aside0.mk bl
     clear bl
     have H' := Aside0.mk H
     clear H
     obtain ⟨df, dg, cA⟩ := Kd.R_slice ag.out
     subst cA
     have p530 : 0 ≤ (ab : Int) := of_decide_eq_true rfA
     have q530 : ab < (aj.length : Int) := of_decide_eq_true rfA
     obtain ⟨ad530, e530, bS⟩ := Kd.at_string (Kd.R_reads' ag.out).2.2 ab p530 q530
     cases e530
     replace p530 := eq_true p530
     replace q530 := eq_true q530
     go_wp2
     repeat (go_quiet (first | (go_at_call 19; (with_reducible refine (graftwoodref17_Pick.calls k1 _ _ l0 (rdOf ByteArray.empty aj ab) av _ (cW (Kd.C_below HR0.out HB.out)) HC0.out A7.out).mono ?_); rintro e w' ⟨rfl, ⟨nd, rfl⟩⟩; (try first | exact ⟨rfl, _, World.drewN_drewN _ _ _⟩ | exact ⟨rfl, _, Eq.trans (World.drewN_drewN _ _ _) (congrArg (World.drewN _) (Nat.add_assoc _ _ _))⟩); have p532 : 0 ≤ (ab : Int) := of_decide_eq_true rfA; have q532 : ab < (aj.length : Int) := of_decide_eq_true rfA; obtain ⟨ad532, e532, aQ⟩ := Kd.at_string (Kd.R_reads' ag.out).2.2 ab p532 q532; obtain rfl : ad530 = ad532 := (by injection e532); replace p532 := eq_true p532; replace q532 := eq_true q532) | (go_at_call 19; (with_reducible refine (graftwoodref17_Pick.calls k1 _ _ l1 (rdOf ByteArray.empty aj ab) au _ (cW (Kd.C_below HR1.out (eTx HB.out))) HC1.out A8.out).mono ?_); rintro e w' ⟨rfl, ⟨nd, rfl⟩⟩; (try first | exact ⟨rfl, _, World.drewN_drewN _ _ _⟩ | exact ⟨rfl, _, Eq.trans (World.drewN_drewN _ _ _) (congrArg (World.drewN _) (Nat.add_assoc _ _ _))⟩); have p534 : 0 ≤ (ab : Int) := of_decide_eq_true rfA; have q534 : ab < (aj.length : Int) := of_decide_eq_true rfA; obtain ⟨ad534, e534, bu⟩ := Kd.at_string (Kd.R_reads' ag.out).2.2 ab p534 q534; obtain rfl : ad530 = ad534 := (by injection e534); replace p534 := eq_true p534; replace q534 := eq_true q534)); try go_wp2_with (first | ((with_reducible refine gate_builtin (b := .append) (xs := #[.tmp 34, .tmp 42]) rfl ?_); at_builtin; refine Kd.R_append k75 (w0 := w) w.heap.size rfl (.tmp 34) (.tmp 42) 43 75 (.agg #[(.string ⟨#[]⟩), (.string ⟨#[]⟩), (.string ⟨#[]⟩)]) 48 rfl Tryz.underlying43 info75 rfl (by decide) (by omega) u5 ac (⟨rdOf ByteArray.empty aj ab, av, au⟩ : S75) [.string (rdOf ByteArray.empty aj ab), .string av, .string au] (fun _ => True) (fun _ => False) rfl rfl ?aP (fun _ hk => hk.elim) ?aF ?aO ?aB ?aS ?aL ?_; (case aP => exact k75_mkM _ _ _ (⟨rdOf ByteArray.empty aj ab, av, au⟩ : S75)); (case aB => exact (eTx HB.out)); (case aF => exact (fun _ _ => trivial)); (case aO => exact (rT an.out)); (case aS => exact (below_size (eTx HB.out))); (case aL => have := LMc11.out; omega); intro co w13 ho hb hg hat; rw [← Ny535.out] at ho; replace ag := am (Kd.R_over' (rT ag.out) (Kd.R_typed (rT an.out)) (by decide) hg); replace HB := am (hb); have bK := am (ho); clear an ho hb hg hat)))
     go_roundg k1
     case measure => have := HK1.out; omega
     case rel => exact ⟨(cn), (wrap64 (ab + 1)), rfG, H', ⟨by have := HK1.out; omega⟩, ⟨rT bK.out⟩, ⟨rT ag.out⟩, ⟨eTx HB.out⟩⟩
   ·have cb := decide_eq_false c5
    clear c5
    obtain rfl := smI H
    obtain ⟨dh, di, cB⟩ := Kd.R_slice ag.out
    subst cB
    go_wp2
    repeat (go_quiet (fail); try go_wp2)
    go_ret
    exact ⟨_, rfF, by (with_reducible repeat (first | apply Kd.R_alloc | apply Kd.R_drewN | apply Kd.R_drew)); exact an.out, eTx HB.out⟩

end Go.Proofs.YtknmfmedklfepaaGreatDoor.P
