-- half the indentation
import Derived.Test.YtknmfmedklfepaaGreatDoorSqz
import Derived.Test.YtknmfmedklfepaaGreatDoorP0
import Derived.Test.YtknmfmedklfepaaGreatDoorP4
import Derived.Test.YtknmfmedklfepaaGreatDoorP8
namespace Go.Proofs.YtknmfmedklfepaaGreatDoor.P
open Go.RowKit Go.Proofs.YtknmfmedklfepaaGreatDoorW.PrintWords Go.Proofs.YtknmfmedklfepaaGreatDoorW.PrintLast Go.Proofs.YtknmfmedklfepaaGreatDoorW.PrintMore
attribute [local go_sem] max2_int min2_int max_two min_two max_three min_three max_four min_four
set_option linter.unusedVariables false
set_option linter.unusedSimpArgs false
set_option maxHeartbeats 8000000
set_option maxRecDepth 100000

/-! ### path_Elements: function 59 -/
def path_Elements.l0 : Nat → List ByteArray → List ByteArray → Int → Int → Option (List ByteArray × Int)
 | 0, _, _, _, _ => none
 | k + 1, x4, x9, x10, x11 => if x11 < x10 then (if 0 ≤ x11 then (if x11 < (x9.length : Int) then ((path_element.f (rdOf ByteArray.empty x9 x11)).bind fun ag => (if ag = true then (path_Elements.l0 k x4 x9 x10 (wrap64 (x11 + 1))) else (some (([] : List ByteArray), 1)))) else (none)) else (none)) else (some (x4, 0))
def path_Elements.f (k : Nat) (a0 : ByteArray) : Option (List ByteArray × Int) := (octet_Parts.f a0 47).bind fun aa => (path_Elements.l0 k aa aa (aa.length : Int) 0)
theorem path_Elements.mono_l : ∀ k, (∀ y0 y1 y2 y3, LeO (path_Elements.l0 k y0 y1 y2 y3) (path_Elements.l0 (k + 1) y0 y1 y2 y3))
 | 0 => fun _ _ _ _ r h => by simp [path_Elements.l0] at h
 | k + 1 => by
  have ih0 := path_Elements.mono_l k
  ·intro y0 y1 y2 y3
   unfold path_Elements.l0
   repeat' first | (with_reducible first | apply ih0 | apply LeO.refl | apply LeO.none | apply LeO.ite | refine LeO.bind ?_ (fun _ => ?_)) | apply ih0 | exact LeO.none _ | refine LeO.ite ?_ ?_ | refine LeO.bind ?_ (fun _ => ?_)
theorem path_Elements.mono : ∀ a0 k, LeO (path_Elements.f k a0) (path_Elements.f (k + 1) a0) := by
 intro a0 k
 have ih0 := path_Elements.mono_l k
 unfold path_Elements.f
 repeat' first | (with_reducible first | apply ih0 | apply LeO.refl | apply LeO.none | apply LeO.ite | refine LeO.bind ?_ (fun _ => ?_)) | apply ih0 | exact LeO.none _ | refine LeO.ite ?_ ?_ | refine LeO.bind ?_ (fun _ => ?_)
theorem path_Elements.calls (k : Nat) (a0 : ByteArray) (r1 : List ByteArray) (r2 : Int) (w : World) (h : path_Elements.f k a0 = some (r1, r2)) :
  Calls Tryz.prog 59 #[.string a0] w fun e w' => ∃ v0_ : Value, e = .returned (.tuple #[v0_, .int .i64 r2]) ∧ Kd.R Kd.string 9 w' w.heap.size (fun _ => True) v0_ r1 ∧ Below w.heap.size w w' := by
 have HB := am (Below.refl w.heap.size w)
 unfold path_Elements.f at h; have H := h; clear h
 replace H := bnd H; obtain ⟨aa, A2, H⟩ := H
 have H' := Aside0.mk H
 clear H
 go_enter Tryz.func59, Tryz.ntmps59
 go_wp2_with (first | ((with_reducible refine gtC 88 ?_); refine xCl 8 Tryz.func88 (octet_Parts.calls a0 47 aa _ A2.out) ?_; rintro e w3 ⟨ap, rfl, ho0, hb⟩; refine ⟨_, rfl, ?_⟩; have af := am (Kd.R_lower ho0 (below_size (eTx HB.out))); replace HB := am (sTx HB.out hb); obtain ⟨Ao4, co4, eo4⟩ := Kd.R_slice af.out; subst eo4))
 go_loopg [11] k (fun kq v11 w' => ∃ (ab : Int), v11 = .int .i64 ab ∧ Aside0 (path_Elements.l0 kq aa aa (aa.length : Int) ab = some (r1, r2)) ∧ Aside0 (kq ≤ k) ∧ Aside0 (Kd.R Kd.string 9 w' w.heap.size (fun _ => True) (.slice Ao4 aa.length co4) aa) ∧ Aside0 (Kd.R Kd.string 9 w' w.heap.size (fun _ => True) (.slice Ao4 aa.length co4) aa) ∧ Aside0 (Below w.heap.size w w'))
 case atStart => exact ⟨(0), rfG, H', ⟨Nat.le_refl _⟩, ⟨rT af.out⟩, ⟨rT af.out⟩, ⟨eTx HB.out⟩⟩
 case round =>
  clear H'
  obtain ⟨ab, rfl, HA, HK1, ad, ac, HB⟩ := hrel
  cases gk with
  | zero => exact absurd HA.out (by simp [path_Elements.l0])
  | succ k1 =>
   have H := HA.out
   clear HA
   simp only [path_Elements.l0] at H
   replace H := ifP H; rcases H with ⟨c5, H⟩ | ⟨c5, H⟩
   ·have ai := decide_eq_true c5
    clear c5
    replace H := ifN H; obtain ⟨c6, H⟩ := H
    have aq := decide_eq_true c6
    clear c6
    replace H := ifN H; obtain ⟨c7, H⟩ := H
    have ar := decide_eq_true c7
    clear c7
    replace H := bnd H; obtain ⟨ag, A8, H⟩ := H
    replace H := ifB H; rcases H with ⟨rfl, H⟩ | ⟨rfl, H⟩
    ·have H' := Aside0.mk H
     clear H
     have p122 : 0 ≤ (ab : Int) := of_decide_eq_true rfA
     have q122 : ab < (aa.length : Int) := of_decide_eq_true rfA
     obtain ⟨ad122, e122, ah⟩ := Kd.at_string (Kd.R_reads' ac.out).2.2 ab p122 q122
     cases e122
     replace p122 := eq_true p122
     replace q122 := eq_true q122
     go_wp2_with (first | ((with_reducible refine gtC 89 ?_); refine xCb 16 Tryz.func89 (path_element.calls (rdOf ByteArray.empty aa ab) true _ A8.out) fun w10 hb => ?_; replace ad := am (rB ad.out hb); replace ac := am (rB ac.out hb); replace HB := am (sTx HB.out hb)))
     go_roundg k1
     case measure => have := HK1.out; omega
     case rel => exact ⟨(wrap64 (ab + 1)), rfG, H', ⟨by have := HK1.out; omega⟩, ⟨rT ad.out⟩, ⟨rT ac.out⟩, ⟨eTx HB.out⟩⟩
    ·replace H := prB H; obtain ⟨rfl, rfl⟩ := H
     have p122 : 0 ≤ (ab : Int) := of_decide_eq_true rfA
     have q122 : ab < (aa.length : Int) := of_decide_eq_true rfA
     obtain ⟨ad122, e122, ah⟩ := Kd.at_string (Kd.R_reads' ac.out).2.2 ab p122 q122
     cases e122
     replace p122 := eq_true p122
     replace q122 := eq_true q122
     go_wp2_with (first | ((with_reducible refine gtC 89 ?_); refine xCb 16 Tryz.func89 (path_element.calls (rdOf ByteArray.empty aa ab) false _ A8.out) fun w11 hb => ?_; replace ad := am (rB ad.out hb); replace ac := am (rB ac.out hb); replace HB := am (sTx HB.out hb)))
     go_ret2
     exact ⟨_, rfF, rfM, eTx HB.out⟩
   ·have ai := decide_eq_false c5
    clear c5
    replace H := prB H; obtain ⟨rfl, rfl⟩ := H
    go_wp2
    go_ret2
    exact ⟨_, rfF, by (with_reducible repeat (first | apply Kd.R_alloc | apply Kd.R_drewN | apply Kd.R_drew)); exact ad.out, eTx HB.out⟩

/-! ### path_May: function 32 -/
def path_May.f (k : Nat) (a0 : ByteArray) : Option (Bool) := (path_Elements.f k a0).bind fun bt124 => (some (bt124.2 == 0))
theorem path_May.mono : ∀ a0 k, LeO (path_May.f k a0) (path_May.f (k + 1) a0) := by
 intro a0 k
 unfold path_May.f
 repeat' first | (with_reducible first | apply path_Elements.mono | apply LeO.refl | apply LeO.none | apply LeO.ite | refine LeO.bind ?_ (fun _ => ?_)) | apply path_Elements.mono | exact LeO.none _ | refine LeO.ite ?_ ?_ | refine LeO.bind ?_ (fun _ => ?_)
theorem path_May.calls (k : Nat) (a0 : ByteArray) (r : Bool) (w : World) (h : path_May.f k a0 = some r) :
  Calls Tryz.prog 32 #[.string a0] w fun e w' => e = .returned (.bool r) ∧ Below w.heap.size w w' := by
 have HB := am (Below.refl w.heap.size w)
 unfold path_May.f at h; have H := h; clear h
 replace H := bnd H; obtain ⟨⟨ak, aj⟩, A2, H⟩ := H
 (try dsimp only at H)
 obtain rfl := smI H
 go_enter Tryz.func32, Tryz.ntmps32
 go_wp2_with (first | ((with_reducible refine gtC 59 ?_); refine xCl 7 Tryz.func59 (path_Elements.calls k a0 ak aj _ A2.out) ?_; rintro e w3 ⟨au, rfl, ho0, hb⟩; refine ⟨_, rfl, ?_⟩; have ao := am (Kd.R_lower ho0 (below_size (eTx HB.out))); replace HB := am (sTx HB.out hb)))
 go_ret
 exact ⟨rfF, eTx HB.out⟩

/-! ### stringslite_HasPrefix: function 107 -/
def stringslite_HasPrefix.f (a0 : ByteArray) (a1 : ByteArray) : Option (Bool) := if (a0.size : Int) ≥ (a1.size : Int) then (if 0 ≤ (a1.size : Int) then (if (a1.size : Int) ≤ (a0.size : Int) then (some ((a0.extract 0 ((a1.size : Int) : Int).toNat).toList == a1.toList)) else (none)) else (none)) else (some false)
theorem stringslite_HasPrefix.calls (a0 : ByteArray) (a1 : ByteArray) (r : Bool) (w : World) (h : stringslite_HasPrefix.f a0 a1 = some r) :
  Calls Tryz.prog 107 #[.string a0, .string a1] w fun e w' => e = .returned (.bool r) ∧ Drawn0 w w' := by
 unfold stringslite_HasPrefix.f at h; have H := h; clear h
 replace H := ifP H; rcases H with ⟨c3, H⟩ | ⟨c3, H⟩
 ·have al : decide ((a1.size : Int) ≤ (a0.size : Int)) = true := decide_eq_true c3
  have an : decide (a1.size ≤ a0.size) = true := decide_eq_true (Int.ofNat_le.mp c3)
  clear c3
  replace H := ifN H; obtain ⟨c4, H⟩ := H
  have av := eq_true c4
  have aw := decide_eq_true c4
  clear c4
  replace H := ifN H; obtain ⟨c5, H⟩ := H
  have ai := eq_true c5
  have ax := decide_eq_true c5
  clear c5
  obtain rfl := smI H
  go_enter Tryz.func107, Tryz.ntmps107
  go_wp2
  go_ret
  exact ⟨rfG, rfD⟩
 ·have al : decide ((a1.size : Int) ≤ (a0.size : Int)) = false := decide_eq_false c3
  have an : decide (a1.size ≤ a0.size) = false := decide_eq_false (fun h => c3 (Int.ofNat_le.mpr h))
  clear c3
  obtain rfl := smI H
  go_enter Tryz.func107, Tryz.ntmps107
  go_wp2
  go_ret
  exact ⟨rfG, rfD⟩

/-! ### strings_HasPrefix: function 90 -/
def strings_HasPrefix.f (a0 : ByteArray) (a1 : ByteArray) : Option (Bool) := (stringslite_HasPrefix.f a0 a1).bind fun ae => (some ae)
theorem strings_HasPrefix.calls (a0 : ByteArray) (a1 : ByteArray) (r : Bool) (w : World) (h : strings_HasPrefix.f a0 a1 = some r) :
  Calls Tryz.prog 90 #[.string a0, .string a1] w fun e w' => e = .returned (.bool r) ∧ Drawn0 w w' := by
 unfold strings_HasPrefix.f at h; have H := h; clear h
 replace H := bnd H; obtain ⟨ae, A3, H⟩ := H
 obtain rfl := smI H
 go_enter Tryz.func90, Tryz.ntmps90
 go_wp2_with (first | ((with_reducible refine gtC 107 ?_); refine xCz 7 Tryz.func107 (stringslite_HasPrefix.calls a0 a1 ae _ A3.out) fun nd => ?_))
 go_ret
 exact ⟨rfG, rfD⟩

end Go.Proofs.YtknmfmedklfepaaGreatDoor.P
