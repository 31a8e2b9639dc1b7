-- half the indentation
import Derived.Test.YtomjppafgalaoaaGreatDoorSqz
import Derived.Test.YtomjppafgalaoaaGreatDoorP0
import Derived.Test.YtomjppafgalaoaaGreatDoorP1
namespace Go.Proofs.YtomjppafgalaoaaGreatDoor.P
open Go.RowKit Go.Proofs.YtomjppafgalaoaaGreatDoorW.PrintWords Go.Proofs.YtomjppafgalaoaaGreatDoorW.PrintLast Go.Proofs.YtomjppafgalaoaaGreatDoorW.PrintMore
attribute [local go_sem] max2_int min2_int max_two min_two max_three min_three max_four min_four
set_option linter.unusedVariables false
set_option linter.unusedSimpArgs false
set_option maxHeartbeats 8000000
set_option maxRecDepth 100000

attribute [local go_sem high] eqA27
/-! ### api_Node_29: function 29 -/
def api_Node_29.l0 : Nat → List (S27) → List (S27) → Int → Int → Option (Bool)
 | 0, _, _, _, _ => none
 | k + 1, x0, x1, x12, x13 => if x13 < x12 then (if 0 ≤ x13 then (if x13 < (x0.length : Int) then (if x13 < (x1.length : Int) then (if (!((((rd_T27 x0 x13).f0).toList) == (((rd_T27 x1 x13).f0).toList)) || (!((((rd_T27 x0 x13).f1).toList) == (((rd_T27 x1 x13).f1).toList)))) = true then (some false) else (api_Node_29.l0 k x0 x1 x12 (wrap64 (x13 + 1)))) else (none)) else (none)) else (none)) else (some true)
def api_Node_29.f (k : Nat) (l0 : List (S27)) (l1 : List (S27)) : Option (Bool) := if (l0.length : Int) = (l1.length : Int) then (api_Node_29.l0 k l0 l1 (l0.length : Int) 0) else (some false)
theorem api_Node_29.mono_l : ∀ k, (∀ y0 y1 y2 y3, LeO (api_Node_29.l0 k y0 y1 y2 y3) (api_Node_29.l0 (k + 1) y0 y1 y2 y3))
 | 0 => fun _ _ _ _ r h => by simp [api_Node_29.l0] at h
 | k + 1 => by
  have ih0 := api_Node_29.mono_l k
  ·intro y0 y1 y2 y3
   unfold api_Node_29.l0
   repeat' first | (with_reducible first | apply ih0 | apply LeO.refl | apply LeO.none | apply LeO.ite | refine LeO.bind ?_ (fun _ => ?_)) | apply ih0 | exact LeO.none _ | refine LeO.ite ?_ ?_ | refine LeO.bind ?_ (fun _ => ?_)
theorem api_Node_29.mono : ∀ a0 a1 k, LeO (api_Node_29.f k a0 a1) (api_Node_29.f (k + 1) a0 a1) := by
 intro a0 a1 k
 have ih0 := api_Node_29.mono_l k
 unfold api_Node_29.f
 repeat' first | (with_reducible first | apply ih0 | apply LeO.refl | apply LeO.none | apply LeO.ite | refine LeO.bind ?_ (fun _ => ?_)) | apply ih0 | exact LeO.none _ | refine LeO.ite ?_ ?_ | refine LeO.bind ?_ (fun _ => ?_)
theorem api_Node_29.calls (k : Nat) (A0 : Option Addr) (c0 : Nat) (l0 : List (S27)) (A1 : Option Addr) (c1 : Nat) (l1 : List (S27)) (r : Bool) (w : World) (hr0 : Kd.C k27 w A0 l0.length l0) (hc0 : l0.length ≤ c0) (hr1 : Kd.C k27 w A1 l1.length l1) (hc1 : l1.length ≤ c1) (h : api_Node_29.f k l0 l1 = some r) :
  Calls Tryz.prog 29 #[.slice A0 l0.length c0, .slice A1 l1.length c1] w fun e w' => e = .returned (.bool r) ∧ Drawn0 w w' := by
 have hu27 := Tryz.underlying27
 have HR0 := Aside0.mk hr0
 have HC0 := Aside0.mk hc0
 clear hr0 hc0
 have HR1 := Aside0.mk hr1
 have HC1 := Aside0.mk hc1
 clear hr1 hc1
 unfold api_Node_29.f at h; have H := h; clear h
 replace H := ifP H; rcases H with ⟨c3, H⟩ | ⟨c3, H⟩
 ·have au := beq_iff_eq.mpr c3
  have av := bne_eq_false_iff_eq.mpr c3
  have aw : (l0.length == l1.length) = true := by first | simpa using c3 | (simp at c3 ⊢; omega)
  clear c3
  have H' := Aside0.mk H
  clear H
  go_enter Tryz.func29, Tryz.ntmps29
  go_wp2
  repeat (go_quiet (fail); try go_wp2)
  go_loopg [13] k (fun kq v13 w' => ∃ (aa : Int), v13 = .int .i64 aa ∧ Aside0 (api_Node_29.l0 kq l0 l1 (l0.length : Int) aa = some r) ∧ Aside0 (kq ≤ k) ∧ Drawn0 w w')
  case atStart => exact ⟨(0), rfG, H', ⟨Nat.le_refl _⟩, rfD⟩
  case round =>
   clear H'
   obtain ⟨aa, rfl, HA, HK1, ⟨m1, rfl⟩⟩ := hrel
   cases gk with
   | zero => exact absurd HA.out (by simp [api_Node_29.l0])
   | succ k1 =>
    have H := HA.out
    clear HA
    simp only [api_Node_29.l0] at H
    replace H := ifP H; rcases H with ⟨c4, H⟩ | ⟨c4, H⟩
    ·have aH := decide_eq_true c4
     clear c4
     replace H := ifN H; obtain ⟨c5, H⟩ := H
     have a9 := decide_eq_true c5
     clear c5
     replace H := ifN H; obtain ⟨c6, H⟩ := H
     have a_ := decide_eq_true c6
     clear c6
     replace H := ifN H; obtain ⟨c7, H⟩ := H
     have bb := decide_eq_true c7
     clear c7
     replace H := ifP H; rcases H with ⟨c8, H⟩ | ⟨c8, H⟩
     ·have aI := c8
      clear c8
      obtain rfl := smI H
      have p399 : 0 ≤ (aa : Int) := of_decide_eq_true rfA
      have q399 : aa < (l0.length : Int) := of_decide_eq_true rfA
      obtain ⟨ad399, e399, ax, ay⟩ := at_T27 HR0.out aa p399 q399
      cases e399
      replace p399 := eq_true p399
      replace q399 := eq_true q399
      have p400 : 0 ≤ (aa : Int) := of_decide_eq_true rfA
      have q400 : aa < (l1.length : Int) := of_decide_eq_true rfA
      obtain ⟨ad400, e400, az, aA⟩ := at_T27 HR1.out aa p400 q400
      cases e400
      replace p400 := eq_true p400
      replace q400 := eq_true q400
      go_wp2
      repeat (go_quiet (fail); try go_wp2)
      go_ret
      exact ⟨rfG, rfD⟩
     ·have aI := Bool.eq_false_iff.mpr c8
      clear c8
      have H' := Aside0.mk H
      clear H
      have p399 : 0 ≤ (aa : Int) := of_decide_eq_true rfA
      have q399 : aa < (l0.length : Int) := of_decide_eq_true rfA
      obtain ⟨ad399, e399, ax, ay⟩ := at_T27 HR0.out aa p399 q399
      cases e399
      replace p399 := eq_true p399
      replace q399 := eq_true q399
      have p400 : 0 ≤ (aa : Int) := of_decide_eq_true rfA
      have q400 : aa < (l1.length : Int) := of_decide_eq_true rfA
      obtain ⟨ad400, e400, az, aA⟩ := at_T27 HR1.out aa p400 q400
      cases e400
      replace p400 := eq_true p400
      replace q400 := eq_true q400
      go_wp2
      repeat (go_quiet (fail); try go_wp2)
      go_roundg k1
      case measure => have := HK1.out; omega
      case rel => exact ⟨(wrap64 (aa + 1)), rfG, H', ⟨by have := HK1.out; omega⟩, rfD⟩
    ·have aH := decide_eq_false c4
     clear c4
     obtain rfl := smI H
     go_wp2
     repeat (go_quiet (fail); try go_wp2)
     go_ret
     exact ⟨rfG, rfD⟩
 ·have au := beq_eq_false_iff_ne.mpr c3
  have av := bne_iff_ne.mpr c3
  have aw : (l0.length == l1.length) = false := by first | simpa using c3 | (simp at c3 ⊢; omega)
  obtain rfl := smI H
  go_enter Tryz.func29, Tryz.ntmps29
  go_wp2
  repeat (go_quiet (fail); try go_wp2)
  go_ret
  exact ⟨rfG, rfD⟩

/-! ### slices_Equal_string_string: function 30 -/
def slices_Equal_string_string.l0 : Nat → List ByteArray → List ByteArray → Int → Int → Option (Bool)
 | 0, _, _, _, _ => none
 | k + 1, x0, x1, x12, x13 => if x13 < x12 then (if 0 ≤ x13 then (if x13 < (x0.length : Int) then (if x13 < (x1.length : Int) then (if (rdOf ByteArray.empty x0 x13).toList = (rdOf ByteArray.empty x1 x13).toList then (slices_Equal_string_string.l0 k x0 x1 x12 (wrap64 (x13 + 1))) else (some false)) else (none)) else (none)) else (none)) else (some true)
def slices_Equal_string_string.f (k : Nat) (l0 : List ByteArray) (l1 : List ByteArray) : Option (Bool) := if (l0.length : Int) = (l1.length : Int) then (slices_Equal_string_string.l0 k l0 l1 (l0.length : Int) 0) else (some false)
theorem slices_Equal_string_string.mono_l : ∀ k, (∀ y0 y1 y2 y3, LeO (slices_Equal_string_string.l0 k y0 y1 y2 y3) (slices_Equal_string_string.l0 (k + 1) y0 y1 y2 y3))
 | 0 => fun _ _ _ _ r h => by simp [slices_Equal_string_string.l0] at h
 | k + 1 => by
  have ih0 := slices_Equal_string_string.mono_l k
  ·intro y0 y1 y2 y3
   unfold slices_Equal_string_string.l0
   repeat' first | (with_reducible first | apply ih0 | apply LeO.refl | apply LeO.none | apply LeO.ite | refine LeO.bind ?_ (fun _ => ?_)) | apply ih0 | exact LeO.none _ | refine LeO.ite ?_ ?_ | refine LeO.bind ?_ (fun _ => ?_)
theorem slices_Equal_string_string.mono : ∀ a0 a1 k, LeO (slices_Equal_string_string.f k a0 a1) (slices_Equal_string_string.f (k + 1) a0 a1) := by
 intro a0 a1 k
 have ih0 := slices_Equal_string_string.mono_l k
 unfold slices_Equal_string_string.f
 repeat' first | (with_reducible first | apply ih0 | apply LeO.refl | apply LeO.none | apply LeO.ite | refine LeO.bind ?_ (fun _ => ?_)) | apply ih0 | exact LeO.none _ | refine LeO.ite ?_ ?_ | refine LeO.bind ?_ (fun _ => ?_)
theorem slices_Equal_string_string.calls (k : Nat) (A0 : Option Addr) (c0 : Nat) (l0 : List ByteArray) (A1 : Option Addr) (c1 : Nat) (l1 : List ByteArray) (r : Bool) (w : World) (hr0 : Kd.C Kd.string w A0 l0.length l0) (hc0 : l0.length ≤ c0) (hr1 : Kd.C Kd.string w A1 l1.length l1) (hc1 : l1.length ≤ c1) (h : slices_Equal_string_string.f k l0 l1 = some r) :
  Calls Tryz.prog 30 #[.slice A0 l0.length c0, .slice A1 l1.length c1] w fun e w' => e = .returned (.bool r) ∧ Drawn0 w w' := by
 have HR0 := Aside0.mk hr0
 have HC0 := Aside0.mk hc0
 clear hr0 hc0
 have HR1 := Aside0.mk hr1
 have HC1 := Aside0.mk hc1
 clear hr1 hc1
 unfold slices_Equal_string_string.f at h; have H := h; clear h
 replace H := ifP H; rcases H with ⟨c3, H⟩ | ⟨c3, H⟩
 ·have au := beq_iff_eq.mpr c3
  have av := bne_eq_false_iff_eq.mpr c3
  have aw : (l0.length == l1.length) = true := by first | simpa using c3 | (simp at c3 ⊢; omega)
  clear c3
  have H' := Aside0.mk H
  clear H
  go_enter Tryz.func30, Tryz.ntmps30
  go_wp2
  repeat (go_quiet (fail); try go_wp2)
  go_loopg [13] k (fun kq v13 w' => ∃ (aa : Int), v13 = .int .i64 aa ∧ Aside0 (slices_Equal_string_string.l0 kq l0 l1 (l0.length : Int) aa = some r) ∧ Aside0 (kq ≤ k) ∧ Drawn0 w w')
  case atStart => exact ⟨(0), rfG, H', ⟨Nat.le_refl _⟩, rfD⟩
  case round =>
   clear H'
   obtain ⟨aa, rfl, HA, HK1, ⟨m1, rfl⟩⟩ := hrel
   cases gk with
   | zero => exact absurd HA.out (by simp [slices_Equal_string_string.l0])
   | succ k1 =>
    have H := HA.out
    clear HA
    simp only [slices_Equal_string_string.l0] at H
    replace H := ifP H; rcases H with ⟨c4, H⟩ | ⟨c4, H⟩
    ·have aH := decide_eq_true c4
     clear c4
     replace H := ifN H; obtain ⟨c5, H⟩ := H
     have a9 := decide_eq_true c5
     clear c5
     replace H := ifN H; obtain ⟨c6, H⟩ := H
     have a_ := decide_eq_true c6
     clear c6
     replace H := ifN H; obtain ⟨c7, H⟩ := H
     have bb := decide_eq_true c7
     clear c7
     replace H := ifP H; rcases H with ⟨c8, H⟩ | ⟨c8, H⟩
     ·have aI := beq_iff_eq.mpr c8
      have bc := bne_eq_false_iff_eq.mpr c8
      clear c8
      have H' := Aside0.mk H
      clear H
      have p401 : 0 ≤ (aa : Int) := of_decide_eq_true rfA
      have q401 : aa < (l0.length : Int) := of_decide_eq_true rfA
      obtain ⟨ad401, e401, aB⟩ := Kd.at_string HR0.out aa p401 q401
      cases e401
      replace p401 := eq_true p401
      replace q401 := eq_true q401
      have p402 : 0 ≤ (aa : Int) := of_decide_eq_true rfA
      have q402 : aa < (l1.length : Int) := of_decide_eq_true rfA
      obtain ⟨ad402, e402, aC⟩ := Kd.at_string HR1.out aa p402 q402
      cases e402
      replace p402 := eq_true p402
      replace q402 := eq_true q402
      go_wp2
      repeat (go_quiet (fail); try go_wp2)
      go_roundg k1
      case measure => have := HK1.out; omega
      case rel => exact ⟨(wrap64 (aa + 1)), rfG, H', ⟨by have := HK1.out; omega⟩, rfD⟩
     ·have aI := beq_eq_false_iff_ne.mpr c8
      have bc := bne_iff_ne.mpr c8
      obtain rfl := smI H
      have p401 : 0 ≤ (aa : Int) := of_decide_eq_true rfA
      have q401 : aa < (l0.length : Int) := of_decide_eq_true rfA
      obtain ⟨ad401, e401, aB⟩ := Kd.at_string HR0.out aa p401 q401
      cases e401
      replace p401 := eq_true p401
      replace q401 := eq_true q401
      have p402 : 0 ≤ (aa : Int) := of_decide_eq_true rfA
      have q402 : aa < (l1.length : Int) := of_decide_eq_true rfA
      obtain ⟨ad402, e402, aC⟩ := Kd.at_string HR1.out aa p402 q402
      cases e402
      replace p402 := eq_true p402
      replace q402 := eq_true q402
      go_wp2
      repeat (go_quiet (fail); try go_wp2)
      go_ret
      exact ⟨rfG, rfD⟩
    ·have aH := decide_eq_false c4
     clear c4
     obtain rfl := smI H
     go_wp2
     repeat (go_quiet (fail); try go_wp2)
     go_ret
     exact ⟨rfG, rfD⟩
 ·have au := beq_eq_false_iff_ne.mpr c3
  have av := bne_iff_ne.mpr c3
  have aw : (l0.length == l1.length) = false := by first | simpa using c3 | (simp at c3 ⊢; omega)
  obtain rfl := smI H
  go_enter Tryz.func30, Tryz.ntmps30
  go_wp2
  repeat (go_quiet (fail); try go_wp2)
  go_ret
  exact ⟨rfG, rfD⟩

/-! ### store_Same: function 11 -/
def store_Same.f (k : Nat) (l0_0 : List (S27)) (l0_1 : List ByteArray) (l1_0 : List (S27)) (l1_1 : List ByteArray) : Option (Bool) := (api_Node_29.f k l0_0 l1_0).bind fun an => (if an = true then ((slices_Equal_string_string.f k l0_1 l1_1).bind fun af => (some af)) else (some false))
theorem store_Same.mono : ∀ a0 a1 a2 a3 k, LeO (store_Same.f k a0 a1 a2 a3) (store_Same.f (k + 1) a0 a1 a2 a3) := by
 intro a0 a1 a2 a3 k
 unfold store_Same.f
 repeat' first | (with_reducible first | apply api_Node_29.mono | apply slices_Equal_string_string.mono | apply LeO.refl | apply LeO.none | apply LeO.ite | refine LeO.bind ?_ (fun _ => ?_)) | apply api_Node_29.mono | apply slices_Equal_string_string.mono | exact LeO.none _ | refine LeO.ite ?_ ?_ | refine LeO.bind ?_ (fun _ => ?_)
theorem store_Same.calls (k : Nat) (ag : Option Addr) (ah : Nat) (l0_0 : List (S27)) (ao : Option Addr) (ap : Nat) (l0_1 : List ByteArray) (ai : Option Addr) (aj : Nat) (l1_0 : List (S27)) (aq : Option Addr) (ar : Nat) (l1_1 : List ByteArray) (r : Bool) (w : World) (hr0_0 : Kd.C k27 w ag l0_0.length l0_0) (hc0_0 : l0_0.length ≤ ah) (hr0_1 : Kd.C Kd.string w ao l0_1.length l0_1) (hc0_1 : l0_1.length ≤ ap) (hr1_0 : Kd.C k27 w ai l1_0.length l1_0) (hc1_0 : l1_0.length ≤ aj) (hr1_1 : Kd.C Kd.string w aq l1_1.length l1_1) (hc1_1 : l1_1.length ≤ ar) (h : store_Same.f k l0_0 l0_1 l1_0 l1_1 = some r) :
  Calls Tryz.prog 11 #[.agg #[.slice ag l0_0.length ah, .slice ao l0_1.length ap], .agg #[.slice ai l1_0.length aj, .slice aq l1_1.length ar]] w fun e w' => e = .returned (.bool r) ∧ Below w.heap.size w w' := by
 have hu25 := Tryz.underlying25
 have aD := Aside0.mk hr0_0
 have aE := Aside0.mk hc0_0
 clear hr0_0 hc0_0
 have aJ := Aside0.mk hr0_1
 have aK := Aside0.mk hc0_1
 clear hr0_1 hc0_1
 have aF := Aside0.mk hr1_0
 have aG := Aside0.mk hc1_0
 clear hr1_0 hc1_0
 have aL := Aside0.mk hr1_1
 have aM := Aside0.mk hc1_1
 clear hr1_1 hc1_1
 have HB := am (Below.refl w.heap.size w)
 unfold store_Same.f at h; have H := h; clear h
 replace H := bnd H; obtain ⟨an, A3, H⟩ := H
 replace H := ifB H; rcases H with ⟨rfl, H⟩ | ⟨rfl, H⟩
 ·replace H := bnd H; obtain ⟨af, A5, H⟩ := H
  obtain rfl := smI H
  go_enter Tryz.func11, Tryz.ntmps11
  go_wp2_with (first | ((with_reducible refine gtD 2 ?_); refine xBx 2 25 #[.slice ag l0_0.length ah, .slice ao l0_1.length ap] ?_; intro ak hg w6 hbox hb; have ab := am (hbox); have aN := am ((gTx hg HB.out)); have aO := am ((gTx hg HB.out)); replace HB := am (sTx HB.out hb); clear hb hbox hg) | ((with_reducible refine gtD 3 ?_); refine xBx 3 25 #[.slice ai l1_0.length aj, .slice aq l1_1.length ar] ?_; intro al hg w7 hbox hb; have ac := am (hbox); have aP := am ((gTx hg HB.out)); have aQ := am ((gTx hg HB.out)); have ad := am ((nT ab.out hg)); have ae := am ((mT ab.out hg)); replace ab := am (bB ab.out hb); replace HB := am (sTx HB.out hb); clear hb hbox hg; have bk := ad.out; have bl := ae.out; obtain ⟨be, bf, bg, bh⟩ := bxB ab; obtain ⟨aR, aU, aV, aW⟩ := bxB ac) | ((with_reducible refine gtC 29 ?_); refine xCz 9 Tryz.func29 (api_Node_29.calls k _ _ l0_0 _ _ l1_0 true _ (cW (Kd.C_below aD.out HB.out)) aE.out (cW (Kd.C_below aF.out HB.out)) aG.out A3.out) fun nd => ?_) | (go_at_call 30; (with_reducible refine (slices_Equal_string_string.calls k _ _ l0_1 _ _ l1_1 af _ (cW (Kd.C_below aJ.out (eTx HB.out))) aK.out (cW (Kd.C_below aL.out (eTx HB.out))) aM.out A5.out).mono ?_); rintro e w' ⟨rfl, ⟨nd, rfl⟩⟩))
  go_ret
  exact ⟨rfF, eTx HB.out⟩
 ·obtain rfl := smI H
  go_enter Tryz.func11, Tryz.ntmps11
  go_wp2_with (first | ((with_reducible refine gtD 2 ?_); refine xBx 2 25 #[.slice ag l0_0.length ah, .slice ao l0_1.length ap] ?_; intro ak hg w11 hbox hb; have ab := am (hbox); have aN := am ((gTx hg HB.out)); have aO := am ((gTx hg HB.out)); replace HB := am (sTx HB.out hb); clear hb hbox hg) | ((with_reducible refine gtD 3 ?_); refine xBx 3 25 #[.slice ai l1_0.length aj, .slice aq l1_1.length ar] ?_; intro al hg w12 hbox hb; have ac := am (hbox); have aP := am ((gTx hg HB.out)); have aQ := am ((gTx hg HB.out)); have ad := am ((nT ab.out hg)); have ae := am ((mT ab.out hg)); replace ab := am (bB ab.out hb); replace HB := am (sTx HB.out hb); clear hb hbox hg; have bi := ad.out; have bj := ae.out; obtain ⟨aX, aY, aZ, a4⟩ := bxB ab; obtain ⟨a5, a6, a7, a8⟩ := bxB ac) | ((with_reducible refine gtC 29 ?_); refine xCz 9 Tryz.func29 (api_Node_29.calls k _ _ l0_0 _ _ l1_0 false _ (cW (Kd.C_below aD.out HB.out)) aE.out (cW (Kd.C_below aF.out HB.out)) aG.out A3.out) fun nd => ?_))
  go_ret
  exact ⟨rfF, eTx HB.out⟩

end Go.Proofs.YtomjppafgalaoaaGreatDoor.P
