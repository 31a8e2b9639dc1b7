-- Written by this project's own program (wip/tools/hp.py), driving the kit's print; hand texts among it. Not trusted: Lean checks it.
-- half the indentation
import Derived.Test.YtomjppafgalaoaaDoorThin
import Derived.Test.YtomjppafgalaoaaDoorP0
import Derived.Test.YtomjppafgalaoaaDoorP4
import Derived.Test.YtomjppafgalaoaaDoorP8
namespace Go.Proofs.YtomjppafgalaoaaDoor.P
open Go.RowKit Go.Proofs.YtomjppafgalaoaaDoorW.PrintWords Go.Proofs.YtomjppafgalaoaaDoorW.PrintLast Go.Proofs.YtomjppafgalaoaaDoorW.PrintMore
attribute [local go_sem] max2_int min2_int max_two min_two max_three min_three max_four min_four   -- for this text's walks alone
set_option linter.unusedVariables false
set_option linter.unusedSimpArgs false

/-! ### path_Elements: function 45 -/
def path_Elements.l0 : Nat → List ByteArray → List ByteArray → Int → Int → Option (List ByteArray × Int)
 | 0, _, _, _, _ => none
 | k + 1, x4, x9, x10, x11 => if x11 < x10 then (if 0 ≤ x11 then (if x11 < (x9.length : Int) then ((path_element.f (rdOf ByteArray.empty x9 x11)).bind fun ag => (if ag = true then (path_Elements.l0 k x4 x9 x10 (wrap64 (x11 + 1))) else (some (([] : List ByteArray), 1)))) else (none)) else (none)) else (some (x4, 0))
def path_Elements.f (k : Nat) (a0 : ByteArray) : Option (List ByteArray × Int) := (octet_Parts.f a0 47).bind fun aa => (path_Elements.l0 k aa aa (aa.length : Int) 0)
theorem path_Elements.mono_l : ∀ k, (∀ y0 y1 y2 y3, LeO (path_Elements.l0 k y0 y1 y2 y3) (path_Elements.l0 (k + 1) y0 y1 y2 y3))
 | 0 => fun _ _ _ _ r h => by simp [path_Elements.l0] at h
 | k + 1 => by
  have ih0 := path_Elements.mono_l k
  ·intro y0 y1 y2 y3
   unfold path_Elements.l0
   repeat' first
   | (with_reducible exact ih0 _ _ _ _)
   | (with_reducible exact LeO.refl _)
   | (with_reducible exact LeO.none _)
   | (with_reducible refine LeO.ite ?_ ?_)
   | (with_reducible refine LeO.bind ?_ (fun _ => ?_))
   | exact ih0 _ _ _ _
   | exact LeO.none _
   | refine LeO.ite ?_ ?_
   | refine LeO.bind ?_ (fun _ => ?_)
theorem path_Elements.mono : ∀ a0 k, LeO (path_Elements.f k a0) (path_Elements.f (k + 1) a0) := by
 intro a0 k
 have ih0 := path_Elements.mono_l k
 unfold path_Elements.f
 repeat' first
   | (with_reducible exact ih0 _ _ _ _)
   | (with_reducible exact LeO.refl _)
   | (with_reducible exact LeO.none _)
   | (with_reducible refine LeO.ite ?_ ?_)
   | (with_reducible refine LeO.bind ?_ (fun _ => ?_))
   | exact ih0 _ _ _ _
   | exact LeO.none _
   | refine LeO.ite ?_ ?_
   | refine LeO.bind ?_ (fun _ => ?_)
set_option maxHeartbeats 8000000 in
set_option maxRecDepth 100000 in
theorem path_Elements.calls (k : Nat) (a0 : ByteArray) (r1 : List ByteArray) (r2 : Int) (w : World) (h : path_Elements.f k a0 = some (r1, r2)) :
  Calls Tryd.prog 45 #[.string a0] w fun e w' => ∃ v0_ : Value, e = .returned (.tuple #[v0_, .int .i64 r2]) ∧ Kd.R Kd.string 9 w' w.heap.size (fun _ => True) v0_ r1 ∧ Below w.heap.size w w' := by
 have HB := am (Below.refl w.heap.size w)
 have H : ((octet_Parts.f a0 47).bind fun aa => (path_Elements.l0 k aa aa (aa.length : Int) 0)) = some (r1, r2) := h
 clear h
 replace H := Option.bind_eq_some_iff.mp H
 obtain ⟨aa, A20, H⟩ := H
 replace H : (path_Elements.l0 k aa aa (aa.length : Int) 0) = some (r1, r2) := H
 have A2 := Aside0.mk A20
 clear A20
 have H' := Aside0.mk H
 clear H
 go_enter Tryd.func45, Tryd.ntmps45
 go_wp2_with (first | ((with_reducible refine gate_callee (f := 53) rfl ?_); refine gL (some 8) Tryd.func53 #[.string a0, .int .u8 47] ?_; (with_reducible refine (octet_Parts.calls a0 47 aa _ A2.out).mono ?_); rintro e w3 ⟨ap, rfl, ho0, hb⟩; refine ⟨_, rfl, ?_⟩; have af := am (Kd.R_lower ho0 (below_size (eT HB.out))); replace HB := am (sT HB.out hb); (try clear hb); (try clear hb2); (try clear hk); (try clear hi); (try clear ho0); obtain ⟨Ao4, co4, eo4⟩ := Kd.R_slice af.out; subst eo4))
 go_loopg [11] k (fun kq v11 w' => ∃ (ab : Int), v11 = .int .i64 ab ∧ Aside0 (path_Elements.l0 kq aa aa (aa.length : Int) ab = some (r1, r2)) ∧ Aside0 (kq ≤ k) ∧ Aside0 (Kd.R Kd.string 9 w' w.heap.size (fun _ => True) (.slice Ao4 aa.length co4) aa) ∧ Aside0 (Kd.R Kd.string 9 w' w.heap.size (fun _ => True) (.slice Ao4 aa.length co4) aa) ∧ Aside0 (Below w.heap.size w w'))
 case atStart => exact ⟨(0), (by first | rfl | (simp; done) | (simp [*]; done)), H', ⟨Nat.le_refl _⟩, ⟨rT af.out⟩, ⟨rT af.out⟩, ⟨eT HB.out⟩⟩
 case round =>
  clear H'
  try clear p2
  try clear c4
  obtain ⟨ab, rfl, HA, HK1, ad, ac, HB⟩ := hrel
  cases gk with
  | zero => exact absurd HA.out (by simp [path_Elements.l0])
  | succ k1 =>
   have H := HA.out
   clear HA
   simp only [path_Elements.l0] at H
   by_cases c5 : ab < (aa.length : Int)
   ·rw [if_pos c5] at H
    have ai : decide (ab < (aa.length : Int)) = true := decide_eq_true c5
    clear c5
    by_cases c6 : 0 ≤ ab
    ·rw [if_pos c6] at H
     have aq : decide (0 ≤ ab) = true := decide_eq_true c6
     clear c6
     by_cases c7 : ab < (aa.length : Int)
     ·rw [if_pos c7] at H
      have ar : decide (ab < (aa.length : Int)) = true := decide_eq_true c7
      clear c7
      replace H := Option.bind_eq_some_iff.mp H
      obtain ⟨ag, A80, H⟩ := H
      replace H : (if ag = true then (path_Elements.l0 k1 aa aa (aa.length : Int) (wrap64 (ab + 1))) else (some (([] : List ByteArray), 1))) = some (r1, r2) := H
      have A8 := Aside0.mk A80
      clear A80
      by_cases c9 : ag = true
      ·subst c9
       have H1 : (path_Elements.l0 k1 aa aa (aa.length : Int) (wrap64 (ab + 1))) = some (r1, r2) := by rw [if_pos rfl] at H; exact H
       clear H
       have H := H1
       clear H1
       have H' := Aside0.mk H
       clear H
       have p127 : 0 ≤ (ab : Int) := of_decide_eq_true (by first | (with_reducible assumption) | assumption)
       have q127 : ab < (aa.length : Int) := of_decide_eq_true (by first | (with_reducible assumption) | assumption)
       obtain ⟨ad127, e127, ah⟩ := Kd.at_string (Kd.R_reads' ac.out).2.2 ab p127 q127
       cases e127
       replace p127 := eq_true p127
       replace q127 := eq_true q127
       go_wp2_with (first | ((with_reducible refine gate_callee (f := 54) rfl ?_); refine gL (some 16) Tryd.func54 #[.string (rdOf ByteArray.empty aa ab)] ?_; (with_reducible refine (path_element.calls (rdOf ByteArray.empty aa ab) true _ A8.out).mono ?_); rintro e w10 ⟨rfl, hb⟩; refine ⟨_, rfl, ?_⟩; replace ad := am (rB ad.out hb); replace ac := am (rB ac.out hb); replace HB := am (sT HB.out hb); (try clear hb); (try clear hb2); (try clear hk); (try clear hi)))
       go_roundg k1
       case measure => have := HK1.out; omega
       case rel => exact ⟨(wrap64 (ab + 1)), (by first | rfl | (simp; done) | (simp [*]; done)), H', ⟨by have := HK1.out; omega⟩, ⟨rT ad.out⟩, ⟨rT ac.out⟩, ⟨eT HB.out⟩⟩
      ·replace c9 := Bool.eq_false_iff.mpr c9
       subst c9
       have H1 : (some (([] : List ByteArray), 1)) = some (r1, r2) := by rw [if_neg (show ¬ (false = true) by decide)] at H; exact H
       clear H
       have H := H1
       clear H1
       simp only [Option.some.injEq, Prod.mk.injEq] at H
       obtain ⟨rfl, rfl⟩ := H
       have p127 : 0 ≤ (ab : Int) := of_decide_eq_true (by first | (with_reducible assumption) | assumption)
       have q127 : ab < (aa.length : Int) := of_decide_eq_true (by first | (with_reducible assumption) | assumption)
       obtain ⟨ad127, e127, ah⟩ := Kd.at_string (Kd.R_reads' ac.out).2.2 ab p127 q127
       cases e127
       replace p127 := eq_true p127
       replace q127 := eq_true q127
       go_wp2_with (first | ((with_reducible refine gate_callee (f := 54) rfl ?_); refine gL (some 16) Tryd.func54 #[.string (rdOf ByteArray.empty aa ab)] ?_; (with_reducible refine (path_element.calls (rdOf ByteArray.empty aa ab) false _ A8.out).mono ?_); rintro e w11 ⟨rfl, hb⟩; refine ⟨_, rfl, ?_⟩; replace ad := am (rB ad.out hb); replace ac := am (rB ac.out hb); replace HB := am (sT HB.out hb); (try clear hb); (try clear hb2); (try clear hk); (try clear hi)))
       go_ret2
       exact ⟨_, by first | rfl | (simp [errW_none, errW_some] <;> rfl) | (simp [*, errW_none, errW_some] <;> rfl), by first | exact Kd.R_nil _ _ _ _ _ | exact Kd.N_nil _ _ _ _ _ | exact Kd.V_nil _ _ _ _ _ | exact Kd.Q_nil _ _ _ _ _ | exact Kd.S_nil _ _ _ _ _, eT HB.out⟩
     ·rw [if_neg c7] at H
      exact absurd H (by simp)
    ·rw [if_neg c6] at H
     exact absurd H (by simp)
   ·rw [if_neg c5] at H
    have ai : decide (ab < (aa.length : Int)) = false := decide_eq_false c5
    clear c5
    simp only [Option.some.injEq, Prod.mk.injEq] at H
    obtain ⟨rfl, rfl⟩ := H
    go_wp2
    go_ret2
    exact ⟨_, by first | rfl | (simp [errW_none, errW_some] <;> rfl) | (simp [*, errW_none, errW_some] <;> rfl), by (with_reducible repeat (first | apply Kd.R_alloc | apply Kd.R_drewN | apply Kd.R_drew)); exact ad.out, eT HB.out⟩

/-! ### path_May: function 38 -/
def path_May.f (k : Nat) (a0 : ByteArray) : Option (Bool) := (path_Elements.f k a0).bind fun bt129 => (some (bt129.2 == 0))
theorem path_May.mono : ∀ a0 k, LeO (path_May.f k a0) (path_May.f (k + 1) a0) := by
 intro a0 k
 unfold path_May.f
 repeat' first
   | (with_reducible exact path_Elements.mono _ _)
   | (with_reducible exact LeO.refl _)
   | (with_reducible exact LeO.none _)
   | (with_reducible refine LeO.ite ?_ ?_)
   | (with_reducible refine LeO.bind ?_ (fun _ => ?_))
   | exact path_Elements.mono _ _
   | exact LeO.none _
   | refine LeO.ite ?_ ?_
   | refine LeO.bind ?_ (fun _ => ?_)
set_option maxHeartbeats 8000000 in
set_option maxRecDepth 100000 in
theorem path_May.calls (k : Nat) (a0 : ByteArray) (r : Bool) (w : World) (h : path_May.f k a0 = some r) :
  Calls Tryd.prog 38 #[.string a0] w fun e w' => e = .returned (.bool r) ∧ Below w.heap.size w w' := by
 have HB := am (Below.refl w.heap.size w)
 have H : ((path_Elements.f k a0).bind fun bt129 => (some (bt129.2 == 0))) = some r := h
 clear h
 replace H := Option.bind_eq_some_iff.mp H
 obtain ⟨⟨ak, aj⟩, A20, H⟩ := H
 replace H : (some (aj == 0)) = some r := H
 have A2 := Aside0.mk A20
 clear A20
 obtain rfl := Option.some.inj H
 go_enter Tryd.func38, Tryd.ntmps38
 go_wp2_with (first | ((with_reducible refine gate_callee (f := 45) rfl ?_); refine gL (some 7) Tryd.func45 #[.string a0] ?_; (with_reducible refine (path_Elements.calls k a0 ak aj _ A2.out).mono ?_); rintro e w3 ⟨au, rfl, ho0, hb⟩; refine ⟨_, rfl, ?_⟩; have ao := am (Kd.R_lower ho0 (below_size (eT HB.out))); replace HB := am (sT HB.out hb); (try clear hb); (try clear hb2); (try clear hk); (try clear hi); (try clear ho0)))
 go_ret
 exact ⟨by first | rfl | (simp [errW_none, errW_some] <;> rfl) | (simp [*, errW_none, errW_some] <;> rfl), eT HB.out⟩

/-! ### stringslite_HasPrefix: function 64 -/
def stringslite_HasPrefix.f (a0 : ByteArray) (a1 : ByteArray) : Option (Bool) := if (a0.size : Int) ≥ (a1.size : Int) then (if 0 ≤ (a1.size : Int) then (if (a1.size : Int) ≤ (a0.size : Int) then (some ((a0.extract 0 ((a1.size : Int) : Int).toNat).toList == a1.toList)) else (none)) else (none)) else (some false)
set_option maxHeartbeats 8000000 in
set_option maxRecDepth 100000 in
theorem stringslite_HasPrefix.calls (a0 : ByteArray) (a1 : ByteArray) (r : Bool) (w : World) (h : stringslite_HasPrefix.f a0 a1 = some r) :
  Calls Tryd.prog 64 #[.string a0, .string a1] w fun e w' => e = .returned (.bool r) ∧ Drawn0 w w' := by
 have H : (if (a0.size : Int) ≥ (a1.size : Int) then (if 0 ≤ (a1.size : Int) then (if (a1.size : Int) ≤ (a0.size : Int) then (some ((a0.extract 0 ((a1.size : Int) : Int).toNat).toList == a1.toList)) else (none)) else (none)) else (some false)) = some r := h
 clear h
 by_cases c3 : (a0.size : Int) ≥ (a1.size : Int)
 ·rw [if_pos c3] at H
  have al : decide ((a1.size : Int) ≤ (a0.size : Int)) = true := decide_eq_true c3
  have an : decide (a1.size ≤ a0.size) = true := decide_eq_true (Int.ofNat_le.mp c3)
  clear c3
  by_cases c4 : 0 ≤ (a1.size : Int)
  ·rw [if_pos c4] at H
   have av := eq_true c4
   have aw : decide (0 ≤ (a1.size : Int)) = true := decide_eq_true c4
   clear c4
   by_cases c5 : (a1.size : Int) ≤ (a0.size : Int)
   ·rw [if_pos c5] at H
    have ai := eq_true c5
    have ax : decide ((a1.size : Int) ≤ (a0.size : Int)) = true := decide_eq_true c5
    clear c5
    obtain rfl := Option.some.inj H
    go_enter Tryd.func64, Tryd.ntmps64
    go_wp2
    go_ret
    exact ⟨by first | rfl | (simp; done) | (simp [*]; done), by repeat (first | exact Drawn0.refl _ | apply Drawn0.step)⟩
   ·rw [if_neg c5] at H
    exact absurd H (by simp)
  ·rw [if_neg c4] at H
   exact absurd H (by simp)
 ·rw [if_neg c3] at H
  have al : decide ((a1.size : Int) ≤ (a0.size : Int)) = false := decide_eq_false c3
  have an : decide (a1.size ≤ a0.size) = false := decide_eq_false (fun h => c3 (Int.ofNat_le.mpr h))
  clear c3
  obtain rfl := Option.some.inj H
  go_enter Tryd.func64, Tryd.ntmps64
  go_wp2
  go_ret
  exact ⟨by first | rfl | (simp; done) | (simp [*]; done), by repeat (first | exact Drawn0.refl _ | apply Drawn0.step)⟩

/-! ### strings_HasPrefix: function 55 -/
def strings_HasPrefix.f (a0 : ByteArray) (a1 : ByteArray) : Option (Bool) := (stringslite_HasPrefix.f a0 a1).bind fun ae => (some ae)
set_option maxHeartbeats 8000000 in
set_option maxRecDepth 100000 in
theorem strings_HasPrefix.calls (a0 : ByteArray) (a1 : ByteArray) (r : Bool) (w : World) (h : strings_HasPrefix.f a0 a1 = some r) :
  Calls Tryd.prog 55 #[.string a0, .string a1] w fun e w' => e = .returned (.bool r) ∧ Drawn0 w w' := by
 have H : ((stringslite_HasPrefix.f a0 a1).bind fun ae => (some ae)) = some r := h
 clear h
 replace H := Option.bind_eq_some_iff.mp H
 obtain ⟨ae, A30, H⟩ := H
 replace H : (some ae) = some r := H
 have A3 := Aside0.mk A30
 clear A30
 obtain rfl := Option.some.inj H
 go_enter Tryd.func55, Tryd.ntmps55
 go_wp2_with (first | ((with_reducible refine gate_callee (f := 64) rfl ?_); refine gL (some 7) Tryd.func64 #[.string a0, .string a1] ?_; (with_reducible refine (stringslite_HasPrefix.calls a0 a1 ae _ A3.out).mono ?_); rintro e w' ⟨rfl, ⟨nd, rfl⟩⟩; refine ⟨_, rfl, ?_⟩))
 go_ret
 exact ⟨by first | rfl | (simp; done) | (simp [*]; done), by repeat (first | exact Drawn0.refl _ | apply Drawn0.step)⟩

end Go.Proofs.YtomjppafgalaoaaDoor.P
