-- half the indentation
import Derived.Test.YtknmfmedklfepaaDoorSqz
import Derived.Test.YtknmfmedklfepaaDoorP0
import Derived.Test.YtknmfmedklfepaaDoorP1
namespace Go.Proofs.YtknmfmedklfepaaDoor.P
open Go.RowKit Go.Proofs.YtknmfmedklfepaaDoorW.PrintWords Go.Proofs.YtknmfmedklfepaaDoorW.PrintLast Go.Proofs.YtknmfmedklfepaaDoorW.PrintMore
attribute [local go_sem] max2_int min2_int max_two min_two max_three min_three max_four min_four
set_option linter.unusedVariables false
set_option linter.unusedSimpArgs false
set_option maxHeartbeats 8000000
set_option maxRecDepth 100000

attribute [local go_sem high] eqA33
/-! ### graftwoodref05_Has: function 10 -/
def graftwoodref05_Has.l0 : Nat → List (S33) → Int → ByteArray → ByteArray → Option (Bool)
 | 0, _, _, _, _ => none
 | k + 1, x0, x5, af, ag => if x5 < (x0.length : Int) then (if 0 ≤ x5 then (if ((((rd_T33 x0 x5).f0).toList) == af.toList && ((((rd_T33 x0 x5).f1).toList) == ag.toList)) = true then (some true) else (graftwoodref05_Has.l0 k x0 (wrap64 (x5 + 1)) af ag)) else (none)) else (some false)
def graftwoodref05_Has.f (k : Nat) (l0 : List (S33)) (a1_0 : ByteArray) (a1_1 : ByteArray) : Option (Bool) := graftwoodref05_Has.l0 k l0 0 a1_0 a1_1
theorem graftwoodref05_Has.mono_l : ∀ k, (∀ y0 y1 y2 y3, LeO (graftwoodref05_Has.l0 k y0 y1 y2 y3) (graftwoodref05_Has.l0 (k + 1) y0 y1 y2 y3))
 | 0 => fun _ _ _ _ r h => by simp [graftwoodref05_Has.l0] at h
 | k + 1 => by
  have ih0 := graftwoodref05_Has.mono_l k
  ·intro y0 y1 y2 y3
   unfold graftwoodref05_Has.l0
   repeat' first | (with_reducible first | apply ih0 | apply LeO.refl | apply LeO.none | apply LeO.ite | refine LeO.bind ?_ (fun _ => ?_)) | apply ih0 | exact LeO.none _ | refine LeO.ite ?_ ?_ | refine LeO.bind ?_ (fun _ => ?_)
theorem graftwoodref05_Has.mono : ∀ a0 a1 a2 k, LeO (graftwoodref05_Has.f k a0 a1 a2) (graftwoodref05_Has.f (k + 1) a0 a1 a2) := by
 intro a0 a1 a2 k
 have ih0 := graftwoodref05_Has.mono_l k
 unfold graftwoodref05_Has.f
 repeat' first | (with_reducible first | apply ih0 | apply LeO.refl | apply LeO.none | apply LeO.ite | refine LeO.bind ?_ (fun _ => ?_)) | apply ih0 | exact LeO.none _ | refine LeO.ite ?_ ?_ | refine LeO.bind ?_ (fun _ => ?_)
theorem graftwoodref05_Has.calls (k : Nat) (A0 : Option Addr) (c0 : Nat) (l0 : List (S33)) (a1_0 : ByteArray) (a1_1 : ByteArray) (r : Bool) (w : World) (hr0 : Kd.C k33 w A0 l0.length l0) (hc0 : l0.length ≤ c0) (h : graftwoodref05_Has.f k l0 a1_0 a1_1 = some r) :
  Calls Tryd.prog 10 #[.slice A0 l0.length c0, .agg #[.string a1_0, .string a1_1]] w fun e w' => e = .returned (.bool r) ∧ Below w.heap.size w w' := by
 have hu33 := Tryd.underlying33
 have HR0 := Aside0.mk hr0
 have HC0 := Aside0.mk hc0
 clear hr0 hc0
 have HB := am (Below.refl w.heap.size w)
 unfold graftwoodref05_Has.f at h; have H := h; clear h
 have H' := Aside0.mk H
 clear H
 go_enter Tryd.func10, Tryd.ntmps10
 go_wp2_with (first | ((with_reducible refine gtD 3 ?_); refine xBx 3 33 #[.string a1_0, .string a1_1] ?_; intro ae hg w3 hbox hb; have ab := am (hbox); have ah := am ((gTx hg HB.out)); have ai := am ((gTx hg HB.out)); replace HB := am (sTx HB.out hb); clear hb hbox hg))
 repeat (go_quiet (first | ((with_reducible refine gtD 3 ?_); refine xBx 3 33 #[.string a1_0, .string a1_1] ?_; intro ae hg w3 hbox hb; have ab := am (hbox); have ah := am ((gTx hg HB.out)); have ai := am ((gTx hg HB.out)); replace HB := am (sTx HB.out hb); clear hb hbox hg)); try go_wp2_with (first | ((with_reducible refine gtD 3 ?_); refine xBx 3 33 #[.string a1_0, .string a1_1] ?_; intro ae hg w3 hbox hb; have ab := am (hbox); have ah := am ((gTx hg HB.out)); have ai := am ((gTx hg HB.out)); replace HB := am (sTx HB.out hb); clear hb hbox hg)))
 go_loopg [5] k (fun kq v5 w' => ∃ (aa : Int), v5 = .int .i64 aa ∧ Aside0 (graftwoodref05_Has.l0 kq l0 aa a1_0 a1_1 = some r) ∧ Aside0 (kq ≤ k) ∧ Aside0 (w'.heap[ae]? = some (.cells #[.string a1_0, .string a1_1] 33 (0, 0))) ∧ Aside0 (Below w.heap.size w w'))
 case atStart => exact ⟨(0), rfG, H', ⟨Nat.le_refl _⟩, ⟨bT ab.out⟩, ⟨eTx HB.out⟩⟩
 case round =>
  clear H'
  obtain ⟨aa, rfl, HA, HK1, ab, HB⟩ := hrel
  cases gk with
  | zero => exact absurd HA.out (by simp [graftwoodref05_Has.l0])
  | succ k1 =>
   have H := HA.out
   clear HA
   simp only [graftwoodref05_Has.l0] at H
   replace H := ifP H; rcases H with ⟨c4, H⟩ | ⟨c4, H⟩
   ·have aj := decide_eq_true c4
    clear c4
    replace H := ifN H; obtain ⟨c5, H⟩ := H
    have ay := decide_eq_true c5
    clear c5
    replace H := ifP H; rcases H with ⟨c6, H⟩ | ⟨c6, H⟩
    ·have ak := c6
     (try (have al : decide ((((rd_T33 l0 aa).f0).toList) = a1_0.toList && ((((rd_T33 l0 aa).f1).toList) == a1_1.toList)) = true := by simpa using c6))
     (try (have an : ((((rd_T33 l0 aa).f0).toList) == a1_0.toList && ((((rd_T33 l0 aa).f1).toList) == a1_1.toList)) = true := by simpa using c6))
     clear c6
     obtain rfl := smI H
     have p296 : 0 ≤ (aa : Int) := of_decide_eq_true rfA
     have q296 : aa < (l0.length : Int) := of_decide_eq_true rfA
     obtain ⟨ad296, e296, ac, ad⟩ := at_T33 HR0.out aa p296 q296
     cases e296
     replace ac := (HB.out.cell (World.block_lt_of_cell? w _ ac)).trans ac
     replace ad := (HB.out.cell (World.block_lt_of_cell? w _ ad)).trans ad
     replace p296 := eq_true p296
     replace q296 := eq_true q296
     obtain ⟨ao, ap, aq, ar⟩ := bxB ab
     go_wp2
     repeat (go_quiet (fail); try go_wp2)
     go_ret
     exact ⟨rfF, eTx HB.out⟩
    ·have ak := Bool.eq_false_iff.mpr c6
     (try (have al : decide ((((rd_T33 l0 aa).f0).toList) = a1_0.toList && ((((rd_T33 l0 aa).f1).toList) == a1_1.toList)) = false := by simpa using c6))
     (try (have an : ((((rd_T33 l0 aa).f0).toList) == a1_0.toList && ((((rd_T33 l0 aa).f1).toList) == a1_1.toList)) = false := by simpa using c6))
     (try (have az : ¬ ((((rd_T33 l0 aa).f0).toList) = a1_0.toList && ((((rd_T33 l0 aa).f1).toList) == a1_1.toList)) := by simpa using c6))
     clear c6
     have H' := Aside0.mk H
     clear H
     have p296 : 0 ≤ (aa : Int) := of_decide_eq_true rfA
     have q296 : aa < (l0.length : Int) := of_decide_eq_true rfA
     obtain ⟨ad296, e296, ac, ad⟩ := at_T33 HR0.out aa p296 q296
     cases e296
     replace ac := (HB.out.cell (World.block_lt_of_cell? w _ ac)).trans ac
     replace ad := (HB.out.cell (World.block_lt_of_cell? w _ ad)).trans ad
     replace p296 := eq_true p296
     replace q296 := eq_true q296
     obtain ⟨au, av, aw, ax⟩ := bxB ab
     go_wp2
     repeat (go_quiet (fail); try go_wp2)
     go_roundg k1
     case measure => have := HK1.out; omega
     case rel => exact ⟨(wrap64 (aa + 1)), rfG, H', ⟨by have := HK1.out; omega⟩, ⟨bT ab.out⟩, ⟨eTx HB.out⟩⟩
   ·have aj := decide_eq_false c4
    clear c4
    obtain rfl := smI H
    go_wp2
    repeat (go_quiet (fail); try go_wp2)
    go_ret
    exact ⟨rfF, eTx HB.out⟩

end Go.Proofs.YtknmfmedklfepaaDoor.P
