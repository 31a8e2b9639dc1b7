-- half the indentation
import Derived.Test.YtknmfmedklfepaaGreatDoorSqz
import Derived.Test.YtknmfmedklfepaaGreatDoorP0
import Derived.Test.YtknmfmedklfepaaGreatDoorP9
import Derived.Test.YtknmfmedklfepaaGreatDoorP22
namespace Go.Proofs.YtknmfmedklfepaaGreatDoor.P
open Go.RowKit Go.Proofs.YtknmfmedklfepaaGreatDoorW.PrintWords Go.Proofs.YtknmfmedklfepaaGreatDoorW.PrintLast Go.Proofs.YtknmfmedklfepaaGreatDoorW.PrintMore
attribute [local go_sem] max2_int min2_int max_two min_two max_three min_three max_four min_four
set_option linter.unusedVariables false
set_option linter.unusedSimpArgs false
set_option maxHeartbeats 8000000
set_option maxRecDepth 100000

/-! ### list_Pick: function 11 -/
mutual
def list_Pick.j0 : Nat → List (S55) → ByteArray → Bool → Option (ByteArray × Int)
 | 0, _, _, _ => none
 | k + 1, x0, x1, x15 => if x15 = true then (some ((⟨#[]⟩ : ByteArray), 1)) else (list_Pick.l0 k x1 x0 (x0.length : Int) 0)
def list_Pick.l0 : Nat → ByteArray → List (S55) → Int → Int → Option (ByteArray × Int)
 | 0, _, _, _, _ => none
 | k + 1, x1, x16, x17, x18 => if x18 < x17 then (if 0 ≤ x18 then (if x18 < (x16.length : Int) then (if ((rd_T55 x16 x18).f0).toList = x1.toList then (some ((rd_T55 x16 x18).f1, 0)) else (list_Pick.l0 k x1 x16 x17 (wrap64 (x18 + 1)))) else (none)) else (none)) else (some ((⟨#[]⟩ : ByteArray), 2))
end
def list_Pick.f (k : Nat) (l0 : List (S55)) (a1 : ByteArray) : Option (ByteArray × Int) := (list_Check.f k l0).bind fun ae => (if ae = 0 then ((path_May.f k a1).bind fun af => (list_Pick.j0 k l0 a1 (!af))) else (list_Pick.j0 k l0 a1 true))
theorem list_Pick.mono_l : ∀ k, (∀ y0 y1 y2, LeO (list_Pick.j0 k y0 y1 y2) (list_Pick.j0 (k + 1) y0 y1 y2)) ∧ (∀ y0 y1 y2 y3, LeO (list_Pick.l0 k y0 y1 y2 y3) (list_Pick.l0 (k + 1) y0 y1 y2 y3))
 | 0 => ⟨fun _ _ _ r h => by simp [list_Pick.j0] at h, fun _ _ _ _ r h => by simp [list_Pick.l0] at h⟩
 | k + 1 => by
  obtain ⟨ih0, ih1⟩ := list_Pick.mono_l k
  refine ⟨?_, ?_⟩
  ·intro y0 y1 y2
   unfold list_Pick.j0
   repeat' first | (with_reducible first | apply ih0 | apply ih1 | apply list_Check.mono | apply path_May.mono | apply LeO.refl | apply LeO.none | apply LeO.ite | refine LeO.bind ?_ (fun _ => ?_)) | apply ih0 | apply ih1 | apply list_Check.mono | apply path_May.mono | exact LeO.none _ | refine LeO.ite ?_ ?_ | refine LeO.bind ?_ (fun _ => ?_)
  ·intro y0 y1 y2 y3
   unfold list_Pick.l0
   repeat' first | (with_reducible first | apply ih0 | apply ih1 | apply list_Check.mono | apply path_May.mono | apply LeO.refl | apply LeO.none | apply LeO.ite | refine LeO.bind ?_ (fun _ => ?_)) | apply ih0 | apply ih1 | apply list_Check.mono | apply path_May.mono | exact LeO.none _ | refine LeO.ite ?_ ?_ | refine LeO.bind ?_ (fun _ => ?_)
theorem list_Pick.mono : ∀ a0 a1 k, LeO (list_Pick.f k a0 a1) (list_Pick.f (k + 1) a0 a1) := by
 intro a0 a1 k
 obtain ⟨ih0, ih1⟩ := list_Pick.mono_l k
 unfold list_Pick.f
 repeat' first | (with_reducible first | apply ih0 | apply ih1 | apply list_Check.mono | apply path_May.mono | apply LeO.refl | apply LeO.none | apply LeO.ite | refine LeO.bind ?_ (fun _ => ?_)) | apply ih0 | apply ih1 | apply list_Check.mono | apply path_May.mono | exact LeO.none _ | refine LeO.ite ?_ ?_ | refine LeO.bind ?_ (fun _ => ?_)
theorem list_Pick.calls (k : Nat) (A0 : Option Addr) (c0 : Nat) (l0 : List (S55)) (a1 : ByteArray) (r1 : ByteArray) (r2 : Int) (w : World) (hr0 : Kd.C k55 w A0 l0.length l0) (hc0 : l0.length ≤ c0) (h : list_Pick.f k l0 a1 = some (r1, r2)) :
  Calls Tryz.prog 11 #[.slice A0 l0.length c0, .string a1] w fun e w' => e = .returned (.tuple #[.string r1, .int .i64 r2]) ∧ Below w.heap.size w w' := by
 have hu55 := Tryz.underlying55
 have HR0 := Aside0.mk hr0
 have HC0 := Aside0.mk hc0
 clear hr0 hc0
 have HB := am (Below.refl w.heap.size w)
 unfold list_Pick.f at h; have H := h; clear h
 have HC3 := Aside0.mk H
 clear H
 go_enter Tryz.func11, Tryz.ntmps11
 go_upto_region 1 with (fail)
 go_cut [15] (fun v15 wc => ∃ (kq : Nat) (ai : Bool), v15 = .bool ai ∧ Aside0 (list_Pick.j0 kq l0 a1 ai = some (r1, r2)) ∧ Aside0 (kq ≤ k) ∧ Aside0 (Below w.heap.size w wc))
 case first =>
  have H := HC3.out
  clear HC3
  replace H := bnd H; obtain ⟨ae, A4, H⟩ := H
  replace H := ifP H; rcases H with ⟨c5, H⟩ | ⟨c5, H⟩
  ·have ah := beq_iff_eq.mpr c5
   have aj := bne_eq_false_iff_eq.mpr c5
   clear c5
   (first | rw [ah] | (simp only [i64_w, i32_w]; rw [ah]) | skip)
   replace H := bnd H; obtain ⟨af, A6, H⟩ := H
   have H' := Aside0.mk H
   clear H
   go_wp2_with (first | ((with_reducible refine gtC 12 ?_); refine xCb 9 Tryz.func12 (list_Check.calls k _ _ l0 ae _ (cW (Kd.C_below HR0.out HB.out)) HC0.out A4.out) fun w7 hb => ?_; replace HB := am (sTx HB.out hb)) | (go_at_call 32; (with_reducible refine (path_May.calls k a1 af _ A6.out).mono ?_); rintro e w8 ⟨rfl, hb⟩; replace HB := am (sTx HB.out hb)))
   go_meet
   case rel => exact ⟨_, (!af), rfG, H', ⟨rfO⟩, ⟨eTx HB.out⟩⟩
  ·have ah := beq_eq_false_iff_ne.mpr c5
   have aj := bne_iff_ne.mpr c5
   (first | rw [ah] | (simp only [i64_w, i32_w]; rw [ah]) | skip)
   have H' := Aside0.mk H
   clear H
   go_wp2_with (first | ((with_reducible refine gtC 12 ?_); refine xCb 9 Tryz.func12 (list_Check.calls k _ _ l0 ae _ (cW (Kd.C_below HR0.out HB.out)) HC0.out A4.out) fun w9 hb => ?_; replace HB := am (sTx HB.out hb)))
   go_meet
   case rel => exact ⟨_, (true), rfG, H', ⟨rfO⟩, ⟨eTx HB.out⟩⟩
 case rest =>
  clear HC3
  obtain ⟨kq, ai, rfl, HA, HJ2, HB⟩ := hcut
  cases kq with
  | zero => exact absurd HA.out (by simp [list_Pick.j0])
  | succ kj2 =>
   have H := HA.out
   clear HA
   simp only [list_Pick.j0] at H
   replace H := ifB H; rcases H with ⟨rfl, H⟩ | ⟨rfl, H⟩
   ·replace H := prB H; obtain ⟨rfl, rfl⟩ := H
    go_wp2
    go_ret2
    exact ⟨rfF, eTx HB.out⟩
   ·have H' := Aside0.mk H
    clear H
    go_wp2
    go_loopg [18] kj2 (fun kq v18 w' => ∃ (aa : Int), v18 = .int .i64 aa ∧ Aside0 (list_Pick.l0 kq a1 l0 (l0.length : Int) aa = some (r1, r2)) ∧ Aside0 (kq ≤ kj2) ∧ Aside0 (Below w.heap.size w w'))
    case atStart => exact ⟨(0), rfG, H', ⟨Nat.le_refl _⟩, ⟨eTx HB.out⟩⟩
    case round =>
     clear H'
     obtain ⟨aa, rfl, HA, HK2, HB⟩ := hrel
     cases gk with
     | zero => exact absurd HA.out (by simp [list_Pick.l0])
     | succ k2 =>
      have H := HA.out
      clear HA
      simp only [list_Pick.l0] at H
      replace H := ifP H; rcases H with ⟨c11, H⟩ | ⟨c11, H⟩
      ·have ak := decide_eq_true c11
       clear c11
       replace H := ifN H; obtain ⟨c12, H⟩ := H
       have aA := decide_eq_true c12
       clear c12
       replace H := ifN H; obtain ⟨c13, H⟩ := H
       have aB := decide_eq_true c13
       clear c13
       replace H := ifP H; rcases H with ⟨c14, H⟩ | ⟨c14, H⟩
       ·have al := beq_iff_eq.mpr c14
        have an := bne_eq_false_iff_eq.mpr c14
        clear c14
        replace H := prB H; obtain ⟨rfl, rfl⟩ := H
        have p276 : 0 ≤ (aa : Int) := of_decide_eq_true rfA
        have q276 : aa < (l0.length : Int) := of_decide_eq_true rfA
        obtain ⟨ad276, e276, ab, ac⟩ := at_T55 HR0.out aa p276 q276
        cases e276
        replace ab := (HB.out.cell (World.block_lt_of_cell? w _ ab)).trans ab
        replace ac := (HB.out.cell (World.block_lt_of_cell? w _ ac)).trans ac
        replace p276 := eq_true p276
        replace q276 := eq_true q276
        go_wp2_with (first | ((with_reducible refine gtD 7 ?_); refine xBx 7 55 #[.string (⟨#[]⟩ : ByteArray), .string (⟨#[]⟩ : ByteArray)] ?_; intro ag hg w15 hbox hb; have ad := am (hbox); have ao := am ((gTx hg HB.out)); have ap := am ((gTx hg HB.out)); replace HB := am (sTx HB.out hb); clear hb hbox hg; obtain ⟨aq, ar, au, av⟩ := bxB ad))
        go_ret2
        exact ⟨rfF, eTx HB.out⟩
       ·have al := beq_eq_false_iff_ne.mpr c14
        have an := bne_iff_ne.mpr c14
        have H' := Aside0.mk H
        clear H
        have p276 : 0 ≤ (aa : Int) := of_decide_eq_true rfA
        have q276 : aa < (l0.length : Int) := of_decide_eq_true rfA
        obtain ⟨ad276, e276, ab, ac⟩ := at_T55 HR0.out aa p276 q276
        cases e276
        replace ab := (HB.out.cell (World.block_lt_of_cell? w _ ab)).trans ab
        replace ac := (HB.out.cell (World.block_lt_of_cell? w _ ac)).trans ac
        replace p276 := eq_true p276
        replace q276 := eq_true q276
        go_wp2_with (first | ((with_reducible refine gtD 7 ?_); refine xBx 7 55 #[.string (⟨#[]⟩ : ByteArray), .string (⟨#[]⟩ : ByteArray)] ?_; intro ag hg w17 hbox hb; have ad := am (hbox); have ao := am ((gTx hg HB.out)); have ap := am ((gTx hg HB.out)); replace HB := am (sTx HB.out hb); clear hb hbox hg; obtain ⟨aw, ax, ay, az⟩ := bxB ad))
        go_roundg k2
        case measure => have := HJ2.out; have := HK2.out; omega
        case rel => exact ⟨(wrap64 (aa + 1)), rfG, H', ⟨by have := HJ2.out; have := HK2.out; omega⟩, ⟨eTx HB.out⟩⟩
      ·have ak := decide_eq_false c11
       clear c11
       replace H := prB H; obtain ⟨rfl, rfl⟩ := H
       go_wp2
       go_ret2
       exact ⟨rfF, eTx HB.out⟩

end Go.Proofs.YtknmfmedklfepaaGreatDoor.P
