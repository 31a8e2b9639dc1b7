-- Written by this project's own program (wip/tools/hp.py), driving the kit's print; hand texts among it. Not trusted: Lean checks it.
import Derived.Test.YtjneghnknfhboaaDoorP0
import Derived.Test.YtjneghnknfhboaaDoorP1
import Derived.Test.YtjneghnknfhboaaDoorP2
import Derived.Test.YtjneghnknfhboaaDoorP17
import Derived.Test.YtjneghnknfhboaaDoorP24
import Derived.Test.YtjneghnknfhboaaDoorP25
namespace Go.Proofs.YtjneghnknfhboaaDoor.P
open Go.RowKit Go.Proofs.YtjneghnknfhboaaDoorW.PrintWords Go.Proofs.YtjneghnknfhboaaDoorW.PrintLast Go.Proofs.YtjneghnknfhboaaDoorW.PrintMore
attribute [local go_sem] max2_int min2_int max_two min_two max_three min_three max_four min_four   -- for this text's walks alone
set_option linter.unusedVariables false
set_option linter.unusedSimpArgs false

attribute [local go_sem high] eqA34
/-! ### graftwoodlaw10_InternStays: function 7 -/
mutual
def graftwoodlaw10_InternStays.j0 : Nat → List (S34) → List Int → List (S34) → List (S34) → Option (Bool)
  | 0, _, _, _, _ => none
  | k + 1, x1, x7, x492000, x518000 => (intern_All.f k x518000 x1).bind fun bt518 => (if bt518.2.2 = 0 then ((graftwoodlaw10_same.f k bt518.2.1 x518000).bind fun t526 => (if t526 = true then (if (x7.length : Int) = (bt518.1.length : Int) then (if (x7.length : Int) = (x1.length : Int) then ((intern_Check.f k x518000).bind fun t527 => (if t527 = 0 then (graftwoodlaw10_InternStays.j1 k x1 x7 bt518.1 (decide ((x518000.length : Int) < (x492000.length : Int))) x518000) else (graftwoodlaw10_InternStays.j1 k x1 x7 bt518.1 true x518000))) else (graftwoodlaw10_InternStays.j1 k x1 x7 bt518.1 true x518000)) else (graftwoodlaw10_InternStays.j1 k x1 x7 bt518.1 true x518000)) else (graftwoodlaw10_InternStays.j1 k x1 x7 bt518.1 true x518000))) else (graftwoodlaw10_InternStays.j1 k x1 x7 bt518.1 true x518000))
def graftwoodlaw10_InternStays.j1 : Nat → List (S34) → List Int → List Int → Bool → List (S34) → Option (Bool)
  | 0, _, _, _, _, _ => none
  | k + 1, x1, x7, x13, x90, x518000 => if x90 = true then (some false) else (graftwoodlaw10_InternStays.l0 k x1 x7 x13 0 x518000)
def graftwoodlaw10_InternStays.l0 : Nat → List (S34) → List Int → List Int → Int → List (S34) → Option (Bool)
  | 0, _, _, _, _, _ => none
  | k + 1, x1, x7, x13, x16, x518000 => if x16 < (x1.length : Int) then (if 0 ≤ x16 then (if x16 < (x7.length : Int) then ((intern_At.f k x518000 (([rd x7 x16] : List Int))).bind fun bt532 => (if x16 < (x13.length : Int) then (if (rd x7 x16) = (rd x13 x16) then (if bt532.2 = 0 then (if (bt532.1.length : Int) = 1 then (if 0 < (bt532.1.length : Int) then (if (!((((rd_T34 bt532.1 0).f0).toList) == (((rd_T34 x1 x16).f0).toList)) || (!((((rd_T34 bt532.1 0).f1).toList) == (((rd_T34 x1 x16).f1).toList)))) = true then (some false) else (graftwoodlaw10_InternStays.l0 k x1 x7 x13 (wrap64 (x16 + 1)) x518000)) else (none)) else (some false)) else (some false)) else (some false)) else (none))) else (none)) else (none)) else (graftwoodlaw10_InternStays.l1 k 0 x518000)
def graftwoodlaw10_InternStays.l1 : Nat → Int → List (S34) → Option (Bool)
  | 0, _, _ => none
  | k + 1, x19, x518000 => if x19 < (x518000.length : Int) then (if 0 ≤ x19 then ((intern_Find.f k x518000 ((rd_T34 x518000 x19).f0) ((rd_T34 x518000 x19).f1)).bind fun bt541 => (if bt541.1 = x19 then (if bt541.2 = 0 then (graftwoodlaw10_InternStays.l1 k (wrap64 (x19 + 1)) x518000) else (some false)) else (some false))) else (none)) else ((graftwoodlaw10_awake.f k).bind fun t543 => (some t543))
end
def graftwoodlaw10_InternStays.f (k : Nat) (l0_0 : List (S34)) (l1 : List (S34)) (l2 : List (S34)) : Option (Bool) := (graftwoodlaw10_Few.f k l0_0).bind fun t492 => ((graftwoodlaw05_Few.f k l1).bind fun t495 => ((graftwoodlaw05_Few.f k l2).bind fun t498 => ((intern_All.f k t492 t495).bind fun bt501 => (if bt501.2.2 = 0 then ((intern_All.f k bt501.2.1 t498).bind fun bt510 => (if bt510.2.2 = 0 then (graftwoodlaw10_InternStays.j0 k t495 bt501.1 t492 bt510.2.1) else (graftwoodlaw10_InternStays.j0 k t495 bt501.1 t492 bt501.2.1))) else ((graftwoodlaw10_awake.f k).bind fun t509 => (some t509))))))
theorem graftwoodlaw10_InternStays.mono_l : ∀ k, (∀ y0 y1 y2 y3, LeO (graftwoodlaw10_InternStays.j0 k y0 y1 y2 y3) (graftwoodlaw10_InternStays.j0 (k + 1) y0 y1 y2 y3)) ∧ (∀ y0 y1 y2 y3 y4, LeO (graftwoodlaw10_InternStays.j1 k y0 y1 y2 y3 y4) (graftwoodlaw10_InternStays.j1 (k + 1) y0 y1 y2 y3 y4)) ∧ (∀ y0 y1 y2 y3 y4, LeO (graftwoodlaw10_InternStays.l0 k y0 y1 y2 y3 y4) (graftwoodlaw10_InternStays.l0 (k + 1) y0 y1 y2 y3 y4)) ∧ (∀ y0 y1, LeO (graftwoodlaw10_InternStays.l1 k y0 y1) (graftwoodlaw10_InternStays.l1 (k + 1) y0 y1))
  | 0 => ⟨fun _ _ _ _ r h => by simp [graftwoodlaw10_InternStays.j0] at h, fun _ _ _ _ _ r h => by simp [graftwoodlaw10_InternStays.j1] at h, fun _ _ _ _ _ r h => by simp [graftwoodlaw10_InternStays.l0] at h, fun _ _ r h => by simp [graftwoodlaw10_InternStays.l1] at h⟩
  | k + 1 => by
    obtain ⟨ih0, ih1, ih2, ih3⟩ := graftwoodlaw10_InternStays.mono_l k
    refine ⟨?_, ?_, ?_, ?_⟩
    · intro y0 y1 y2 y3
      unfold graftwoodlaw10_InternStays.j0
      repeat' first
      | (with_reducible exact ih0 _ _ _ _)
      | (with_reducible exact ih1 _ _ _ _ _)
      | (with_reducible exact ih2 _ _ _ _ _)
      | (with_reducible exact ih3 _ _)
      | (with_reducible exact graftwoodlaw05_Few.mono _ _)
      | (with_reducible exact graftwoodlaw10_Few.mono _ _)
      | (with_reducible exact graftwoodlaw10_awake.mono _)
      | (with_reducible exact graftwoodlaw10_same.mono _ _ _)
      | (with_reducible exact intern_All.mono _ _ _)
      | (with_reducible exact intern_At.mono _ _ _)
      | (with_reducible exact intern_Check.mono _ _)
      | (with_reducible exact intern_Find.mono _ _ _ _)
      | (with_reducible exact LeO.refl _)
      | (with_reducible exact LeO.none _)
      | (with_reducible refine LeO.ite ?_ ?_)
      | (with_reducible refine LeO.bind ?_ (fun _ => ?_))
      | exact ih0 _ _ _ _
      | exact ih1 _ _ _ _ _
      | exact ih2 _ _ _ _ _
      | exact ih3 _ _
      | exact graftwoodlaw05_Few.mono _ _
      | exact graftwoodlaw10_Few.mono _ _
      | exact graftwoodlaw10_awake.mono _
      | exact graftwoodlaw10_same.mono _ _ _
      | exact intern_All.mono _ _ _
      | exact intern_At.mono _ _ _
      | exact intern_Check.mono _ _
      | exact intern_Find.mono _ _ _ _
      | exact LeO.none _
      | refine LeO.ite ?_ ?_
      | refine LeO.bind ?_ (fun _ => ?_)
    · intro y0 y1 y2 y3 y4
      unfold graftwoodlaw10_InternStays.j1
      repeat' first
      | (with_reducible exact ih0 _ _ _ _)
      | (with_reducible exact ih1 _ _ _ _ _)
      | (with_reducible exact ih2 _ _ _ _ _)
      | (with_reducible exact ih3 _ _)
      | (with_reducible exact graftwoodlaw05_Few.mono _ _)
      | (with_reducible exact graftwoodlaw10_Few.mono _ _)
      | (with_reducible exact graftwoodlaw10_awake.mono _)
      | (with_reducible exact graftwoodlaw10_same.mono _ _ _)
      | (with_reducible exact intern_All.mono _ _ _)
      | (with_reducible exact intern_At.mono _ _ _)
      | (with_reducible exact intern_Check.mono _ _)
      | (with_reducible exact intern_Find.mono _ _ _ _)
      | (with_reducible exact LeO.refl _)
      | (with_reducible exact LeO.none _)
      | (with_reducible refine LeO.ite ?_ ?_)
      | (with_reducible refine LeO.bind ?_ (fun _ => ?_))
      | exact ih0 _ _ _ _
      | exact ih1 _ _ _ _ _
      | exact ih2 _ _ _ _ _
      | exact ih3 _ _
      | exact graftwoodlaw05_Few.mono _ _
      | exact graftwoodlaw10_Few.mono _ _
      | exact graftwoodlaw10_awake.mono _
      | exact graftwoodlaw10_same.mono _ _ _
      | exact intern_All.mono _ _ _
      | exact intern_At.mono _ _ _
      | exact intern_Check.mono _ _
      | exact intern_Find.mono _ _ _ _
      | exact LeO.none _
      | refine LeO.ite ?_ ?_
      | refine LeO.bind ?_ (fun _ => ?_)
    · intro y0 y1 y2 y3 y4
      unfold graftwoodlaw10_InternStays.l0
      repeat' first
      | (with_reducible exact ih0 _ _ _ _)
      | (with_reducible exact ih1 _ _ _ _ _)
      | (with_reducible exact ih2 _ _ _ _ _)
      | (with_reducible exact ih3 _ _)
      | (with_reducible exact graftwoodlaw05_Few.mono _ _)
      | (with_reducible exact graftwoodlaw10_Few.mono _ _)
      | (with_reducible exact graftwoodlaw10_awake.mono _)
      | (with_reducible exact graftwoodlaw10_same.mono _ _ _)
      | (with_reducible exact intern_All.mono _ _ _)
      | (with_reducible exact intern_At.mono _ _ _)
      | (with_reducible exact intern_Check.mono _ _)
      | (with_reducible exact intern_Find.mono _ _ _ _)
      | (with_reducible exact LeO.refl _)
      | (with_reducible exact LeO.none _)
      | (with_reducible refine LeO.ite ?_ ?_)
      | (with_reducible refine LeO.bind ?_ (fun _ => ?_))
      | exact ih0 _ _ _ _
      | exact ih1 _ _ _ _ _
      | exact ih2 _ _ _ _ _
      | exact ih3 _ _
      | exact graftwoodlaw05_Few.mono _ _
      | exact graftwoodlaw10_Few.mono _ _
      | exact graftwoodlaw10_awake.mono _
      | exact graftwoodlaw10_same.mono _ _ _
      | exact intern_All.mono _ _ _
      | exact intern_At.mono _ _ _
      | exact intern_Check.mono _ _
      | exact intern_Find.mono _ _ _ _
      | exact LeO.none _
      | refine LeO.ite ?_ ?_
      | refine LeO.bind ?_ (fun _ => ?_)
    · intro y0 y1
      unfold graftwoodlaw10_InternStays.l1
      repeat' first
      | (with_reducible exact ih0 _ _ _ _)
      | (with_reducible exact ih1 _ _ _ _ _)
      | (with_reducible exact ih2 _ _ _ _ _)
      | (with_reducible exact ih3 _ _)
      | (with_reducible exact graftwoodlaw05_Few.mono _ _)
      | (with_reducible exact graftwoodlaw10_Few.mono _ _)
      | (with_reducible exact graftwoodlaw10_awake.mono _)
      | (with_reducible exact graftwoodlaw10_same.mono _ _ _)
      | (with_reducible exact intern_All.mono _ _ _)
      | (with_reducible exact intern_At.mono _ _ _)
      | (with_reducible exact intern_Check.mono _ _)
      | (with_reducible exact intern_Find.mono _ _ _ _)
      | (with_reducible exact LeO.refl _)
      | (with_reducible exact LeO.none _)
      | (with_reducible refine LeO.ite ?_ ?_)
      | (with_reducible refine LeO.bind ?_ (fun _ => ?_))
      | exact ih0 _ _ _ _
      | exact ih1 _ _ _ _ _
      | exact ih2 _ _ _ _ _
      | exact ih3 _ _
      | exact graftwoodlaw05_Few.mono _ _
      | exact graftwoodlaw10_Few.mono _ _
      | exact graftwoodlaw10_awake.mono _
      | exact graftwoodlaw10_same.mono _ _ _
      | exact intern_All.mono _ _ _
      | exact intern_At.mono _ _ _
      | exact intern_Check.mono _ _
      | exact intern_Find.mono _ _ _ _
      | exact LeO.none _
      | refine LeO.ite ?_ ?_
      | refine LeO.bind ?_ (fun _ => ?_)
theorem graftwoodlaw10_InternStays.mono : ∀ a0 a1 a2 k, LeO (graftwoodlaw10_InternStays.f k a0 a1 a2) (graftwoodlaw10_InternStays.f (k + 1) a0 a1 a2) := by
  intro a0 a1 a2 k
  obtain ⟨ih0, ih1, ih2, ih3⟩ := graftwoodlaw10_InternStays.mono_l k
  unfold graftwoodlaw10_InternStays.f
  repeat' first
      | (with_reducible exact ih0 _ _ _ _)
      | (with_reducible exact ih1 _ _ _ _ _)
      | (with_reducible exact ih2 _ _ _ _ _)
      | (with_reducible exact ih3 _ _)
      | (with_reducible exact graftwoodlaw05_Few.mono _ _)
      | (with_reducible exact graftwoodlaw10_Few.mono _ _)
      | (with_reducible exact graftwoodlaw10_awake.mono _)
      | (with_reducible exact graftwoodlaw10_same.mono _ _ _)
      | (with_reducible exact intern_All.mono _ _ _)
      | (with_reducible exact intern_At.mono _ _ _)
      | (with_reducible exact intern_Check.mono _ _)
      | (with_reducible exact intern_Find.mono _ _ _ _)
      | (with_reducible exact LeO.refl _)
      | (with_reducible exact LeO.none _)
      | (with_reducible refine LeO.ite ?_ ?_)
      | (with_reducible refine LeO.bind ?_ (fun _ => ?_))
      | exact ih0 _ _ _ _
      | exact ih1 _ _ _ _ _
      | exact ih2 _ _ _ _ _
      | exact ih3 _ _
      | exact graftwoodlaw05_Few.mono _ _
      | exact graftwoodlaw10_Few.mono _ _
      | exact graftwoodlaw10_awake.mono _
      | exact graftwoodlaw10_same.mono _ _ _
      | exact intern_All.mono _ _ _
      | exact intern_At.mono _ _ _
      | exact intern_Check.mono _ _
      | exact intern_Find.mono _ _ _ _
      | exact LeO.none _
      | refine LeO.ite ?_ ?_
      | refine LeO.bind ?_ (fun _ => ?_)
def graftwoodlaw10_InternStays.T14 : Bool × List (List Nat × List Nat) := (true, [([], []), ([], []), ([], []), ([1, 2], [1, 2]), ([3], [3]), ([4], [4]), ([0, 5], [0, 5]), ([6], [6]), ([7], [7]), ([7], [7]), ([8, 6, 0, 1, 2, 3, 4, 5, 6, 7, 8], [8]), ([9, 10, 0, 1, 2, 3, 4, 5, 6, 7, 8, 9, 10], [9])])
def graftwoodlaw10_InternStays.B14 : List Nat := [0, 0, 0, 6, 14, 30, 63, 127, 255, 255, 511, 2047]
theorem graftwoodlaw10_InternStays.tab14 : rtab .any (opsOf Tryd.f7 14) = graftwoodlaw10_InternStays.T14 := by kernel_rfl
theorem graftwoodlaw10_InternStays.bits14 : waitsOk graftwoodlaw10_InternStays.T14.2 graftwoodlaw10_InternStays.B14 = true := by kernel_rfl
def graftwoodlaw10_InternStays.T15 : Bool × List (List Nat × List Nat) := (true, [([], []), ([], []), ([0, 1], [0, 1]), ([2], [2]), ([], []), ([], []), ([4, 5], [4, 5]), ([6], [6]), ([3, 7], [3, 7]), ([8], [8]), ([9], [9]), ([10, 9], [9, 10]), ([9, 11], [9, 11]), ([12, 9], [12]), ([13], [13]), ([14, 13], [13, 14]), ([15, 13], [13, 15]), ([13, 16], [13, 16]), ([17, 13], [17]), ([18], [18]), ([19, 18], [18, 19]), ([20, 18], [18, 20]), ([18], [18]), ([18], [18]), ([22, 23, 18], [18, 22, 23]), ([24, 18], [18, 24]), ([21, 25, 18], [18, 21, 25]), ([18, 26], [18, 26])])
def graftwoodlaw10_InternStays.B15 : List Nat := [0, 0, 3, 7, 0, 0, 48, 112, 255, 511, 1023, 2047, 4095, 8191, 16383, 32767, 65535, 131071, 262143, 524287, 1048575, 2097151, 524287, 524287, 13107199, 29884415, 67108863, 134217727]
theorem graftwoodlaw10_InternStays.tab15 : rtab .any (opsOf Tryd.f7 15) = graftwoodlaw10_InternStays.T15 := by kernel_rfl
theorem graftwoodlaw10_InternStays.bits15 : waitsOk graftwoodlaw10_InternStays.T15.2 graftwoodlaw10_InternStays.B15 = true := by kernel_rfl
def graftwoodlaw10_InternStays.T20 : Bool × List (List Nat × List Nat) := (true, [([], []), ([], []), ([1], [1]), ([], []), ([2, 3], [2, 3]), ([4], [4]), ([0, 5], [0, 5]), ([6], [6]), ([7], [7]), ([7], [7]), ([8, 6, 0, 1, 2, 3, 4, 5, 6, 7, 8], [8]), ([9, 10, 0, 1, 2, 3, 4, 5, 6, 7, 8, 9, 10], [9])])
def graftwoodlaw10_InternStays.B20 : List Nat := [0, 0, 2, 0, 14, 30, 63, 127, 255, 255, 511, 2047]
theorem graftwoodlaw10_InternStays.tab20 : rtab .any (opsOf Tryd.f7 20) = graftwoodlaw10_InternStays.T20 := by kernel_rfl
theorem graftwoodlaw10_InternStays.bits20 : waitsOk graftwoodlaw10_InternStays.T20.2 graftwoodlaw10_InternStays.B20 = true := by kernel_rfl
set_option maxHeartbeats 8000000 in
set_option maxRecDepth 100000 in
theorem graftwoodlaw10_InternStays.calls (k : Nat) (A0_0 : Option Addr) (c0_0 : Nat) (l0_0 : List (S34)) (A1 : Option Addr) (c1 : Nat) (l1 : List (S34)) (A2 : Option Addr) (c2 : Nat) (l2 : List (S34)) (r : Bool) (w : World) (hr0_0 : Kd.C k34 w A0_0 l0_0.length l0_0) (hc0_0 : l0_0.length ≤ c0_0) (hr1 : Kd.C k34 w A1 l1.length l1) (hc1 : l1.length ≤ c1) (hr2 : Kd.C k34 w A2 l2.length l2) (hc2 : l2.length ≤ c2) (h : graftwoodlaw10_InternStays.f k l0_0 l1 l2 = some r) (hR_ : r = true) :
    Calls Tryd.prog 7 #[.agg #[.slice A0_0 l0_0.length c0_0], .slice A1 l1.length c1, .slice A2 l2.length c2] w fun e w' => e = .returned (.bool r) ∧ Below w.heap.size w w' := by
  have hu24 := Tryd.underlying24
  have hu34 := Tryd.underlying34
  have HR0_0 := Aside0.mk hr0_0
  have HC0_0 := Aside0.mk hc0_0
  clear hr0_0 hc0_0
  have HR1 := Aside0.mk hr1
  have HC1 := Aside0.mk hc1
  clear hr1 hc1
  have HR2 := Aside0.mk hr2
  have HC2 := Aside0.mk hc2
  clear hr2 hc2
  have HB := Aside0.mk (Below.refl w.heap.size w)
  have H : ((graftwoodlaw10_Few.f k l0_0).bind fun t492 => ((graftwoodlaw05_Few.f k l1).bind fun t495 => ((graftwoodlaw05_Few.f k l2).bind fun t498 => ((intern_All.f k t492 t495).bind fun bt501 => (if bt501.2.2 = 0 then ((intern_All.f k bt501.2.1 t498).bind fun bt510 => (if bt510.2.2 = 0 then (graftwoodlaw10_InternStays.j0 k t495 bt501.1 t492 bt510.2.1) else (graftwoodlaw10_InternStays.j0 k t495 bt501.1 t492 bt501.2.1))) else ((graftwoodlaw10_awake.f k).bind fun t509 => (some t509))))))) = some r := h
  clear h
  replace H := Option.bind_eq_some_iff.mp H
  obtain ⟨t492, A40, H⟩ := H
  replace H : ((graftwoodlaw05_Few.f k l1).bind fun t495 => ((graftwoodlaw05_Few.f k l2).bind fun t498 => ((intern_All.f k t492 t495).bind fun bt501 => (if bt501.2.2 = 0 then ((intern_All.f k bt501.2.1 t498).bind fun bt510 => (if bt510.2.2 = 0 then (graftwoodlaw10_InternStays.j0 k t495 bt501.1 t492 bt510.2.1) else (graftwoodlaw10_InternStays.j0 k t495 bt501.1 t492 bt501.2.1))) else ((graftwoodlaw10_awake.f k).bind fun t509 => (some t509)))))) = some r := H
  have A4 := Aside0.mk A40
  clear A40
  replace H := Option.bind_eq_some_iff.mp H
  obtain ⟨t495, A50, H⟩ := H
  replace H : ((graftwoodlaw05_Few.f k l2).bind fun t498 => ((intern_All.f k t492 t495).bind fun bt501 => (if bt501.2.2 = 0 then ((intern_All.f k bt501.2.1 t498).bind fun bt510 => (if bt510.2.2 = 0 then (graftwoodlaw10_InternStays.j0 k t495 bt501.1 t492 bt510.2.1) else (graftwoodlaw10_InternStays.j0 k t495 bt501.1 t492 bt501.2.1))) else ((graftwoodlaw10_awake.f k).bind fun t509 => (some t509))))) = some r := H
  have A5 := Aside0.mk A50
  clear A50
  replace H := Option.bind_eq_some_iff.mp H
  obtain ⟨t498, A60, H⟩ := H
  replace H : ((intern_All.f k t492 t495).bind fun bt501 => (if bt501.2.2 = 0 then ((intern_All.f k bt501.2.1 t498).bind fun bt510 => (if bt510.2.2 = 0 then (graftwoodlaw10_InternStays.j0 k t495 bt501.1 t492 bt510.2.1) else (graftwoodlaw10_InternStays.j0 k t495 bt501.1 t492 bt501.2.1))) else ((graftwoodlaw10_awake.f k).bind fun t509 => (some t509)))) = some r := H
  have A6 := Aside0.mk A60
  clear A60
  replace H := Option.bind_eq_some_iff.mp H
  obtain ⟨⟨t501, t504, t507⟩, A70, H⟩ := H
  replace H : (if t507 = 0 then ((intern_All.f k t504 t498).bind fun bt510 => (if bt510.2.2 = 0 then (graftwoodlaw10_InternStays.j0 k t495 t501 t492 bt510.2.1) else (graftwoodlaw10_InternStays.j0 k t495 t501 t492 t504))) else ((graftwoodlaw10_awake.f k).bind fun t509 => (some t509))) = some r := H
  have A7 := Aside0.mk A70
  clear A70
  by_cases c8 : t507 = 0
  · rw [if_pos c8] at H
    have c8b0 : (t507 == 0) = true := beq_iff_eq.mpr c8
    have c8b1 : (t507 != 0) = false := bne_eq_false_iff_eq.mpr c8
    clear c8
    replace H := Option.bind_eq_some_iff.mp H
    obtain ⟨⟨t510, t513, t516⟩, A90, H⟩ := H
    replace H : (if t516 = 0 then (graftwoodlaw10_InternStays.j0 k t495 t501 t492 t513) else (graftwoodlaw10_InternStays.j0 k t495 t501 t492 t504)) = some r := H
    have A9 := Aside0.mk A90
    clear A90
    have HC10 := Aside0.mk H
    clear H
    go_enter Tryd.func7, Tryd.ntmps7
    go_upto_if 46 with (first | ((with_reducible refine gate_dst (N := 3) rfl ?_); (try (refine gate_guard (by rfl) ?_; dsimp only)); refine box_event ?hg (N := 3) ?hd (cs := #[.slice A0_0 l0_0.length c0_0]) (t := 24) ?hr ?_; (case hd => rfl); (case hg => rfl); (case hr => first | (go_simp; done) | (go_simp; rfl)); intro gb491 hg w11 hbox hb; have n0_ := Aside0.mk (below_step (by repeat (first | (with_reducible first | exact HB.out | apply below_alloc | apply pw_below_drewN | apply below_drew1) | exact HB.out)) hb); have n1_ := Aside0.mk (hbox); have n2_ := Aside0.mk ((by rw [hg]; exact (below_size (by repeat (first | (with_reducible first | exact HB.out | apply below_alloc | apply pw_below_drewN | apply below_drew1) | exact HB.out))) : w.heap.size ≤ gb491)); have n3_ := Aside0.mk ((by rw [hg]; exact (below_size (by repeat (first | (with_reducible first | exact HB.out | apply below_alloc | apply pw_below_drewN | apply below_drew1) | exact HB.out))) : w.heap.size ≤ gb491)); clear HB; have HB := n0_; have BK491 := n1_; have GW491 := n2_; have GE491 := n3_; clear n0_ n1_ n2_ n3_; clear hb hbox hg; have hcz12_0 : w11.cell? ⟨gb491, 0, none⟩ = some (.slice A0_0 l0_0.length c0_0) := (blk_cell BK491.out 0).trans rfl; have hfz12_0 := blk_frozen BK491.out 0) | ((with_reducible refine gate_callee (f := 8) rfl ?_); refine goesL_ (some 23) rfl rfl Tryd.func8 (by kernel_rfl) rfl #[.agg #[.slice A0_0 l0_0.length c0_0]] rfl (by (try simp only [List.map_toArray, List.map_cons, List.map_nil]); first | done | rfl | (simp only [List.length_drop, List.length_take]; rfl)) ?_; (with_reducible refine (graftwoodlaw10_Few.calls k _ _ l0_0 t492 _ ?side1 ?side2 A4.out).mono ?_); (case side1 => repeat (first | exact (Kd.C_below HR0_0.out HB.out) | (with_reducible refine Kd.C_alloc ?_ _) | (with_reducible refine Kd.C_drewN ?_ _) | (with_reducible refine Kd.C_drew ?_))); (case side2 => exact HC0_0.out); rintro e w13 ⟨v493, rfl, ho0, hb⟩; refine ⟨_, rfl, ?_⟩; have n0_ := Aside0.mk (Kd.R_lower ho0 (below_size (by repeat (first | (with_reducible first | exact HB.out | apply below_alloc | apply pw_below_drewN | apply below_drew1 | refine below_set ?_ GE491.out) | exact HB.out)))); have n1_ := Aside0.mk (blk_below (g := gb491) (o := .cells #[.slice A0_0 l0_0.length c0_0] 24 (0, 0)) (by (with_reducible repeat (first | refine blk_drewN ?_ _ | refine blk_drew ?_ | refine blk_alloc ?_ _)); exact BK491.out) hb); have n2_ := Aside0.mk (below_step (by repeat (first | (with_reducible first | exact HB.out | apply below_alloc | apply pw_below_drewN | apply below_drew1 | refine below_set ?_ GE491.out) | exact HB.out)) hb); clear BK491; clear HB; have HO494 := n0_; have BK491 := n1_; have HB := n2_; clear n0_ n1_ n2_; (try clear hb); (try clear hb2); (try clear hk); (try clear hi); (try clear ho0)) | ((with_reducible refine gate_callee (f := 9) rfl ?_); refine goesL_ (some 25) rfl rfl Tryd.func9 (by kernel_rfl) rfl #[.slice A1 l1.length c1] rfl (by (try simp only [List.map_toArray, List.map_cons, List.map_nil]); first | done | rfl | (simp only [List.length_drop, List.length_take]; rfl)) ?_; (with_reducible refine (graftwoodlaw05_Few.calls k _ _ l1 t495 _ ?side1 ?side2 A5.out).mono ?_); (case side1 => repeat (first | exact (Kd.C_below HR1.out HB.out) | (with_reducible refine Kd.C_alloc ?_ _) | (with_reducible refine Kd.C_drewN ?_ _) | (with_reducible refine Kd.C_drew ?_))); (case side2 => exact HC1.out); rintro e w14 ⟨v496, rfl, ho0, hb⟩; refine ⟨_, rfl, ?_⟩; have n0_ := Aside0.mk (Kd.R_elder' (by (with_reducible repeat (first | apply Kd.R_alloc | apply Kd.R_drewN | apply Kd.R_drew)); exact HO494.out) (Kd.R_base ho0) hb); have n1_ := Aside0.mk (Kd.R_lower (Kd.R_new' ho0 (Kd.R_lt (by (with_reducible repeat (first | apply Kd.R_alloc | apply Kd.R_drewN | apply Kd.R_drew)); exact HO494.out))) (below_size (by repeat (first | (with_reducible first | exact HB.out | apply below_alloc | apply pw_below_drewN | apply below_drew1 | refine below_set ?_ GE491.out) | exact HB.out)))); have n2_ := Aside0.mk (blk_below (g := gb491) (o := .cells #[.slice A0_0 l0_0.length c0_0] 24 (0, 0)) (by (with_reducible repeat (first | refine blk_drewN ?_ _ | refine blk_drew ?_ | refine blk_alloc ?_ _)); exact BK491.out) hb); have n3_ := Aside0.mk (below_step (by repeat (first | (with_reducible first | exact HB.out | apply below_alloc | apply pw_below_drewN | apply below_drew1 | refine below_set ?_ GE491.out) | exact HB.out)) hb); clear HO494; clear BK491; clear HB; have HO494 := n0_; have HO497 := n1_; have BK491 := n2_; have HB := n3_; clear n0_ n1_ n2_ n3_; (try clear hb); (try clear hb2); (try clear hk); (try clear hi); (try clear ho0)) | ((with_reducible refine gate_callee (f := 9) rfl ?_); refine goesL_ (some 27) rfl rfl Tryd.func9 (by kernel_rfl) rfl #[.slice A2 l2.length c2] rfl (by (try simp only [List.map_toArray, List.map_cons, List.map_nil]); first | done | rfl | (simp only [List.length_drop, List.length_take]; rfl)) ?_; (with_reducible refine (graftwoodlaw05_Few.calls k _ _ l2 t498 _ ?side1 ?side2 A6.out).mono ?_); (case side1 => repeat (first | exact (Kd.C_below HR2.out HB.out) | (with_reducible refine Kd.C_alloc ?_ _) | (with_reducible refine Kd.C_drewN ?_ _) | (with_reducible refine Kd.C_drew ?_))); (case side2 => exact HC2.out); rintro e w15 ⟨v499, rfl, ho0, hb⟩; refine ⟨_, rfl, ?_⟩; have n0_ := Aside0.mk (Kd.R_elder' (by (with_reducible repeat (first | apply Kd.R_alloc | apply Kd.R_drewN | apply Kd.R_drew)); exact HO494.out) (Kd.R_base ho0) hb); have n1_ := Aside0.mk (Kd.R_elder' (by (with_reducible repeat (first | apply Kd.R_alloc | apply Kd.R_drewN | apply Kd.R_drew)); exact HO497.out) (Kd.R_base ho0) hb); have n2_ := Aside0.mk (Kd.R_lower (Kd.R_new' (Kd.R_new' ho0 (Kd.R_lt (by (with_reducible repeat (first | apply Kd.R_alloc | apply Kd.R_drewN | apply Kd.R_drew)); exact HO494.out))) (Kd.R_lt (by (with_reducible repeat (first | apply Kd.R_alloc | apply Kd.R_drewN | apply Kd.R_drew)); exact HO497.out))) (below_size (by repeat (first | (with_reducible first | exact HB.out | apply below_alloc | apply pw_below_drewN | apply below_drew1 | refine below_set ?_ GE491.out) | exact HB.out)))); have n3_ := Aside0.mk (blk_below (g := gb491) (o := .cells #[.slice A0_0 l0_0.length c0_0] 24 (0, 0)) (by (with_reducible repeat (first | refine blk_drewN ?_ _ | refine blk_drew ?_ | refine blk_alloc ?_ _)); exact BK491.out) hb); have n4_ := Aside0.mk (below_step (by repeat (first | (with_reducible first | exact HB.out | apply below_alloc | apply pw_below_drewN | apply below_drew1 | refine below_set ?_ GE491.out) | exact HB.out)) hb); clear HO494; clear HO497; clear BK491; clear HB; have HO494 := n0_; have HO497 := n1_; have HO500 := n2_; have BK491 := n3_; have HB := n4_; clear n0_ n1_ n2_ n3_ n4_; (try clear hb); (try clear hb2); (try clear hk); (try clear hi); (try clear ho0); obtain ⟨Ao16, co16, eo16⟩ := Kd.R_slice HO494.out; subst eo16; have hcz17_0 : w15.cell? ⟨gb491, 0, none⟩ = some (.slice A0_0 l0_0.length c0_0) := (blk_cell BK491.out 0).trans rfl; have hfz17_0 := blk_frozen BK491.out 0) | ((with_reducible refine gate_store (t := 24) (p := 3) rfl ?_); refine store_event (t := 24) (p := 3) (v := ?vo_w18) (w1 := (w15.setCell ⟨gb491, 0, none⟩ (.slice Ao16 t492.length co16))) ?hg ?ho ?hn ?hr ?_; (case ho => rfl); (case hg => rfl); (case hn => rfl); (case hr => first | (go_simp; done) | (go_simp; rfl)); intro w18 hw; have n0_ : Aside0 (Kd.R k34 34 w18 w.heap.size (fun k_ => some k_ ≠ (v496 : Value).ownBlock ∧ some k_ ≠ (v499 : Value).ownBlock) (.slice Ao16 t492.length co16) t492) := ⟨(by rw [hw]; exact (by (with_reducible repeat (first | apply Kd.R_alloc | apply Kd.R_drewN | apply Kd.R_drew)); exact Kd.R_mono (Kd.R_far (p := ⟨gb491, 0, none⟩) (Kd.R_types HO494.out BK491.out (by decide)) (fun _ hk => hk.2) (.slice Ao16 t492.length co16)) (fun _ hk => ⟨hk.1.1.2, hk.1.2⟩)))⟩; have n1_ : Aside0 (Kd.R k34 34 w18 w.heap.size (fun k_ => some k_ ≠ (.slice Ao16 t492.length co16 : Value).ownBlock ∧ some k_ ≠ (v499 : Value).ownBlock) v496 t495) := ⟨(by rw [hw]; exact (by (with_reducible repeat (first | apply Kd.R_alloc | apply Kd.R_drewN | apply Kd.R_drew)); exact Kd.R_mono (Kd.R_far (p := ⟨gb491, 0, none⟩) (Kd.R_types HO497.out BK491.out (by decide)) (fun _ hk => hk.2) (.slice Ao16 t492.length co16)) (fun _ hk => ⟨hk.1.1.2, hk.1.2⟩)))⟩; have n2_ : Aside0 (Kd.R k34 34 w18 w.heap.size (fun k_ => some k_ ≠ (.slice Ao16 t492.length co16 : Value).ownBlock ∧ some k_ ≠ (v496 : Value).ownBlock) v499 t498) := ⟨(by rw [hw]; exact (by (with_reducible repeat (first | apply Kd.R_alloc | apply Kd.R_drewN | apply Kd.R_drew)); exact Kd.R_mono (Kd.R_far (p := ⟨gb491, 0, none⟩) (Kd.R_types HO500.out BK491.out (by decide)) (fun _ hk => hk.2) (.slice Ao16 t492.length co16)) (fun _ hk => ⟨hk.1.1.2, hk.1.2⟩)))⟩; have n3_ : Aside0 (w18.heap[gb491]? = some (.cells #[.slice Ao16 t492.length co16] 24 (0, 0))) := ⟨(by rw [hw]; exact (by (with_reducible repeat (first | refine blk_drewN ?_ _ | refine blk_drew ?_ | refine blk_alloc ?_ _)); refine blk_put (cs := #[.slice A0_0 l0_0.length c0_0]) ?_ 0 _ rfl; (with_reducible repeat (first | refine blk_drewN ?_ _ | refine blk_drew ?_ | refine blk_alloc ?_ _)); exact BK491.out))⟩; have n4_ : Aside0 (Below w.heap.size w w18) := ⟨(by rw [hw]; exact (by repeat (first | (with_reducible first | exact HB.out | apply below_alloc | apply pw_below_drewN | apply below_drew1 | refine below_set ?_ GE491.out) | exact HB.out)))⟩; clear hw; clear HO494; clear HO497; clear HO500; clear BK491; clear HB; have HO494 := n0_; have HO497 := n1_; have HO500 := n2_; have BK491 := n3_; have HB := n4_; clear n0_ n1_ n2_ n3_ n4_; have hcz19_0 : w18.cell? ⟨gb491, 0, none⟩ = some (.slice Ao16 t492.length co16) := (blk_cell BK491.out 0).trans rfl; have hfz19_0 := blk_frozen BK491.out 0; obtain ⟨Ao20, co20, eo20⟩ := Kd.R_slice HO497.out; subst eo20) | ((with_reducible refine gate_callee (f := 10) rfl ?_); refine goesL_ (some 31) rfl rfl Tryd.func10 (by kernel_rfl) rfl #[.agg #[.slice Ao16 t492.length co16], .slice Ao20 t495.length co20] rfl (by (try simp only [List.map_toArray, List.map_cons, List.map_nil]); first | done | rfl | (simp only [List.length_drop, List.length_take]; rfl)) ?_; (with_reducible refine (intern_All.calls k (fun k_ => some k_ = (.slice Ao16 t492.length co16 : Value).ownBlock) _ _ t492 _ _ t495 t501 t504 t507 _ ?side1 ?side2 ?side3 A7.out).mono ?_); (case side1 => exact Kd.R_V (Kd.R_tight rfl (Kd.R_types (HO494.out) BK491.out (by decide)))); (case side2 => repeat (first | exact (Kd.R_reads' HO497.out).2.2 | (with_reducible refine Kd.C_alloc ?_ _) | (with_reducible refine Kd.C_drewN ?_ _) | (with_reducible refine Kd.C_drew ?_))); (case side3 => exact (Kd.R_reads' HO497.out).2.1); rintro e w21 ⟨v502, v505, rfl, ho0, ho1, hb⟩; refine ⟨_, rfl, ?_⟩; have n0_ := Aside0.mk (Kd.R_below (by (with_reducible repeat (first | apply Kd.R_alloc | apply Kd.R_drewN | apply Kd.R_drew)); exact HO494.out) hb); have n1_ := Aside0.mk (Kd.R_below (by (with_reducible repeat (first | apply Kd.R_alloc | apply Kd.R_drewN | apply Kd.R_drew)); exact HO497.out) hb); have n2_ := Aside0.mk (Kd.R_below (by (with_reducible repeat (first | apply Kd.R_alloc | apply Kd.R_drewN | apply Kd.R_drew)); exact HO500.out) hb); have n3_ := Aside0.mk (Kd.R_lower (Kd.R_mono (ok' := fun k_ => True) ho0 (fun _ hk_ => trivial)) (below_size (by repeat (first | (with_reducible first | exact HB.out | apply below_alloc | apply pw_below_drewN | apply below_drew1 | refine below_set ?_ GE491.out) | exact HB.out)))); have n4_ := Aside0.mk (Kd.V_lower (Kd.V_mono (ok' := fun k_ => some k_ ≠ (v502 : Value).ownBlock ∧ some k_ ≠ (.slice Ao20 t495.length co20 : Value).ownBlock ∧ some k_ ≠ (v499 : Value).ownBlock ∧ k_ ≠ gb491) ho1 (fun k_ hk_ => ⟨hk_.2, Or.elim hk_.1 (fun hs_ => ((Kd.R_types (HO494.out) BK491.out (by decide)).1 k_ hs_.symm).1.1) (fun hn_ => (Kd.fresh' (Kd.R_lt (by (with_reducible repeat (first | apply Kd.R_alloc | apply Kd.R_drewN | apply Kd.R_drew)); exact HO497.out)) k_ hn_)), Or.elim hk_.1 (fun hs_ => ((Kd.R_types (HO494.out) BK491.out (by decide)).1 k_ hs_.symm).1.2) (fun hn_ => (Kd.fresh' (Kd.R_lt (by (with_reducible repeat (first | apply Kd.R_alloc | apply Kd.R_drewN | apply Kd.R_drew)); exact HO500.out)) k_ hn_)), Or.elim hk_.1 (fun hs_ => ((Kd.R_types (HO494.out) BK491.out (by decide)).1 k_ hs_.symm).2) (fun hn_ => (Kd.freshB (g := gb491) (o := .cells #[.slice Ao16 t492.length co16] 24 (0, 0)) (by (with_reducible repeat (first | refine blk_drewN ?_ _ | refine blk_drew ?_ | refine blk_alloc ?_ _)); exact BK491.out) k_ hn_))⟩)) (below_size (by repeat (first | (with_reducible first | exact HB.out | apply below_alloc | apply pw_below_drewN | apply below_drew1 | refine below_set ?_ GE491.out) | exact HB.out)))); have n5_ := Aside0.mk (blk_below (g := gb491) (o := .cells #[.slice Ao16 t492.length co16] 24 (0, 0)) (by (with_reducible repeat (first | refine blk_drewN ?_ _ | refine blk_drew ?_ | refine blk_alloc ?_ _)); exact BK491.out) hb); have n6_ := Aside0.mk (below_step (by repeat (first | (with_reducible first | exact HB.out | apply below_alloc | apply pw_below_drewN | apply below_drew1 | refine below_set ?_ GE491.out) | exact HB.out)) hb); clear HO494; clear HO497; clear HO500; clear BK491; clear HB; have HO494 := n0_; have HO497 := n1_; have HO500 := n2_; have HO503 := n3_; have HO506 := n4_; have BK491 := n5_; have HB := n6_; clear n0_ n1_ n2_ n3_ n4_ n5_ n6_; (try clear hb); (try clear hb2); (try clear hk); (try clear hi); (try clear ho0); (try clear ho1)) | ((with_reducible refine gate_dst (N := 8) rfl ?_); (try (refine gate_guard (by rfl) ?_; dsimp only)); refine box_event ?hg (N := 8) ?hd (cs := #[.slice none 0 0]) (t := 24) ?hr ?_; (case hd => rfl); (case hg => rfl); (case hr => first | (go_simp; done) | (go_simp; rfl)); intro gb508 hg w22 hbox hb; have n0_ := Aside0.mk (Kd.R_below (by (with_reducible repeat (first | apply Kd.R_alloc | apply Kd.R_drewN | apply Kd.R_drew)); exact HO494.out) hb); have n1_ := Aside0.mk (Kd.R_below (by (with_reducible repeat (first | apply Kd.R_alloc | apply Kd.R_drewN | apply Kd.R_drew)); exact HO497.out) hb); have n2_ := Aside0.mk (Kd.R_below (by (with_reducible repeat (first | apply Kd.R_alloc | apply Kd.R_drewN | apply Kd.R_drew)); exact HO500.out) hb); have n3_ := Aside0.mk (Kd.R_below (by (with_reducible repeat (first | apply Kd.R_alloc | apply Kd.R_drewN | apply Kd.R_drew)); exact HO503.out) hb); have n4_ := Aside0.mk (Kd.V_below (Kd.V_elderB (by (with_reducible repeat (first | apply Kd.V_alloc | apply Kd.V_drewN | apply Kd.V_drew)); exact HO506.out) gb508 (Nat.le_of_eq hg.symm)) hb); have n5_ := Aside0.mk (blk_below (g := gb491) (o := .cells #[.slice Ao16 t492.length co16] 24 (0, 0)) (by (with_reducible repeat (first | refine blk_drewN ?_ _ | refine blk_drew ?_ | refine blk_alloc ?_ _)); exact BK491.out) hb); have n6_ := Aside0.mk (below_step (by repeat (first | (with_reducible first | exact HB.out | apply below_alloc | apply pw_below_drewN | apply below_drew1 | refine below_set ?_ GE491.out) | exact HB.out)) hb); have n7_ := Aside0.mk (hbox); have n8_ := Aside0.mk ((by rw [hg]; exact (below_size (by repeat (first | (with_reducible first | exact HB.out | apply below_alloc | apply pw_below_drewN | apply below_drew1 | refine below_set ?_ GE491.out) | exact HB.out))) : w.heap.size ≤ gb508)); have n9_ := Aside0.mk ((by rw [hg]; exact (below_size (by repeat (first | (with_reducible first | exact HB.out | apply below_alloc | apply pw_below_drewN | apply below_drew1 | refine below_set ?_ GE491.out) | exact HB.out))) : w.heap.size ≤ gb508)); have n10_ := Aside0.mk ((by rw [hg]; exact Nat.ne_of_lt (blk_lt (g := gb491) (o := .cells #[.slice Ao16 t492.length co16] 24 (0, 0)) (by (with_reducible repeat (first | refine blk_drewN ?_ _ | refine blk_drew ?_ | refine blk_alloc ?_ _)); exact BK491.out)) : gb491 ≠ gb508)); have n11_ := Aside0.mk ((by rw [hg]; exact Nat.ne_of_gt (blk_lt (g := gb491) (o := .cells #[.slice Ao16 t492.length co16] 24 (0, 0)) (by (with_reducible repeat (first | refine blk_drewN ?_ _ | refine blk_drew ?_ | refine blk_alloc ?_ _)); exact BK491.out)) : gb508 ≠ gb491)); clear HO494; clear HO497; clear HO500; clear HO503; clear HO506; clear BK491; clear HB; have HO494 := n0_; have HO497 := n1_; have HO500 := n2_; have HO503 := n3_; have HO506 := n4_; have BK491 := n5_; have HB := n6_; have BK508 := n7_; have GW508 := n8_; have GE508 := n9_; have NB491_508 := n10_; have NB508_491 := n11_; clear n0_ n1_ n2_ n3_ n4_ n5_ n6_ n7_ n8_ n9_ n10_ n11_; clear hb hbox hg; obtain ⟨Ao23, co23, eo23⟩ := Kd.V_slice HO506.out; subst eo23; have hnb24 := NB508_491.out; have hnc24 := NB491_508.out; have hcz25_0 : w22.cell? ⟨gb508, 0, none⟩ = some (.slice none 0 0) := (blk_cell BK508.out 0).trans rfl; have hfz25_0 := blk_frozen BK508.out 0) | ((with_reducible refine gate_store (t := 24) (p := 8) rfl ?_); refine store_event (t := 24) (p := 8) (v := ?vo_w26) (w1 := (w22.setCell ⟨gb508, 0, none⟩ (.slice Ao23 t504.length co23))) ?hg ?ho ?hn ?hr ?_; (case ho => rfl); (case hg => rfl); (case hn => rfl); (case hr => first | (go_simp; done) | (go_simp; rfl)); intro w26 hw; have n0_ : Aside0 (Kd.R k34 34 w26 w.heap.size (fun k_ => some k_ ≠ (.slice Ao20 t495.length co20 : Value).ownBlock ∧ some k_ ≠ (v499 : Value).ownBlock) (.slice Ao16 t492.length co16) t492) := ⟨(by rw [hw]; exact (by (with_reducible repeat (first | apply Kd.R_alloc | apply Kd.R_drewN | apply Kd.R_drew)); exact Kd.R_mono (Kd.R_far (p := ⟨gb508, 0, none⟩) (Kd.R_types HO494.out BK508.out (by decide)) (fun _ hk => hk.2) (.slice Ao23 t504.length co23)) (fun _ hk => ⟨hk.1.1, hk.1.2⟩)))⟩; have n1_ : Aside0 (Kd.R k34 34 w26 w.heap.size (fun k_ => some k_ ≠ (.slice Ao16 t492.length co16 : Value).ownBlock ∧ some k_ ≠ (v499 : Value).ownBlock) (.slice Ao20 t495.length co20) t495) := ⟨(by rw [hw]; exact (by (with_reducible repeat (first | apply Kd.R_alloc | apply Kd.R_drewN | apply Kd.R_drew)); exact Kd.R_mono (Kd.R_far (p := ⟨gb508, 0, none⟩) (Kd.R_types HO497.out BK508.out (by decide)) (fun _ hk => hk.2) (.slice Ao23 t504.length co23)) (fun _ hk => ⟨hk.1.1, hk.1.2⟩)))⟩; have n2_ : Aside0 (Kd.R k34 34 w26 w.heap.size (fun k_ => some k_ ≠ (.slice Ao16 t492.length co16 : Value).ownBlock ∧ some k_ ≠ (.slice Ao20 t495.length co20 : Value).ownBlock) v499 t498) := ⟨(by rw [hw]; exact (by (with_reducible repeat (first | apply Kd.R_alloc | apply Kd.R_drewN | apply Kd.R_drew)); exact Kd.R_mono (Kd.R_far (p := ⟨gb508, 0, none⟩) (Kd.R_types HO500.out BK508.out (by decide)) (fun _ hk => hk.2) (.slice Ao23 t504.length co23)) (fun _ hk => ⟨hk.1.1, hk.1.2⟩)))⟩; have n3_ : Aside0 (Kd.R (Kd.int .i64) 3 w26 w.heap.size (fun _ => True) v502 t501) := ⟨(by rw [hw]; exact (by (with_reducible repeat (first | apply Kd.R_alloc | apply Kd.R_drewN | apply Kd.R_drew)); exact Kd.R_mono (Kd.R_far (p := ⟨gb508, 0, none⟩) (Kd.R_types HO503.out BK508.out (by decide)) (fun _ hk => hk.2) (.slice Ao23 t504.length co23)) (fun _ hk => trivial)))⟩; have n4_ : Aside0 (Kd.V k34 34 w26 w.heap.size (fun k_ => some k_ ≠ (.slice Ao20 t495.length co20 : Value).ownBlock ∧ some k_ ≠ (v499 : Value).ownBlock ∧ some k_ ≠ (v502 : Value).ownBlock ∧ k_ ≠ gb491 ∧ k_ ≠ gb508) (.slice Ao23 t504.length co23) t504) := ⟨(by rw [hw]; exact (by (with_reducible repeat (first | apply Kd.V_alloc | apply Kd.V_drewN | apply Kd.V_drew)); exact Kd.V_mono (Kd.V_far (p := ⟨gb508, 0, none⟩) (Kd.V_mono HO506.out (fun k_ hk => (⟨hk, hk.2⟩ : _ ∧ k_ ≠ gb508))) (fun _ hk => hk.2) (.slice Ao23 t504.length co23)) (fun _ hk => ⟨hk.1.1.2.1, ⟨hk.1.1.2.2.1, ⟨hk.1.1.1, ⟨hk.1.1.2.2.2, hk.1.2⟩⟩⟩⟩)))⟩; have n5_ : Aside0 (w26.heap[gb491]? = some (.cells #[.slice Ao16 t492.length co16] 24 (0, 0))) := ⟨(by rw [hw]; exact (by (with_reducible repeat (first | refine blk_drewN ?_ _ | refine blk_drew ?_ | refine blk_alloc ?_ _)); refine blk_far ?_ NB491_508.out _; (with_reducible repeat (first | refine blk_drewN ?_ _ | refine blk_drew ?_ | refine blk_alloc ?_ _)); exact BK491.out))⟩; have n6_ : Aside0 (w26.heap[gb508]? = some (.cells #[.slice Ao23 t504.length co23] 24 (0, 0))) := ⟨(by rw [hw]; exact (by (with_reducible repeat (first | refine blk_drewN ?_ _ | refine blk_drew ?_ | refine blk_alloc ?_ _)); refine blk_put (cs := #[.slice none 0 0]) ?_ 0 _ rfl; (with_reducible repeat (first | refine blk_drewN ?_ _ | refine blk_drew ?_ | refine blk_alloc ?_ _)); exact BK508.out))⟩; have n7_ : Aside0 (Below w.heap.size w w26) := ⟨(by rw [hw]; exact (by repeat (first | (with_reducible first | exact HB.out | apply below_alloc | apply pw_below_drewN | apply below_drew1 | refine below_set ?_ GE491.out | refine below_set ?_ GE508.out) | exact HB.out)))⟩; clear hw; clear HO494; clear HO497; clear HO500; clear HO503; clear HO506; clear BK491; clear BK508; clear HB; have HO494 := n0_; have HO497 := n1_; have HO500 := n2_; have HO503 := n3_; have HO506 := n4_; have BK491 := n5_; have BK508 := n6_; have HB := n7_; clear n0_ n1_ n2_ n3_ n4_ n5_ n6_ n7_; have hcz27_0 : w26.cell? ⟨gb508, 0, none⟩ = some (.slice Ao23 t504.length co23) := (blk_cell BK508.out 0).trans rfl; have hfz27_0 := blk_frozen BK508.out 0; obtain ⟨Ao28, co28, eo28⟩ := Kd.R_slice HO500.out; subst eo28) | ((with_reducible refine gate_callee (f := 10) rfl ?_); refine goesL_ (some 41) rfl rfl Tryd.func10 (by kernel_rfl) rfl #[.agg #[.slice Ao23 t504.length co23], .slice Ao28 t498.length co28] rfl (by (try simp only [List.map_toArray, List.map_cons, List.map_nil]); first | done | rfl | (simp only [List.length_drop, List.length_take]; rfl)) ?_; (with_reducible refine (intern_All.calls k (fun k_ => (some k_ ≠ (.slice Ao20 t495.length co20 : Value).ownBlock ∧ (some k_ ≠ (.slice Ao28 t498.length co28 : Value).ownBlock ∧ (some k_ ≠ (v502 : Value).ownBlock ∧ (k_ ≠ gb491 ∧ k_ ≠ gb508))))) _ _ t504 _ _ t498 t510 t513 t516 _ ?side1 ?side2 ?side3 A9.out).mono ?_); (case side1 => exact HO506.out); (case side2 => repeat (first | exact (Kd.R_reads' HO500.out).2.2 | (with_reducible refine Kd.C_alloc ?_ _) | (with_reducible refine Kd.C_drewN ?_ _) | (with_reducible refine Kd.C_drew ?_))); (case side3 => exact (Kd.R_reads' HO500.out).2.1); rintro e w29 ⟨v511, v514, rfl, ho0, ho1, hb⟩; refine ⟨_, rfl, ?_⟩; have n0_ := Aside0.mk (Kd.R_below (by (with_reducible repeat (first | apply Kd.R_alloc | apply Kd.R_drewN | apply Kd.R_drew)); exact HO494.out) hb); have n1_ := Aside0.mk (Kd.R_below (by (with_reducible repeat (first | apply Kd.R_alloc | apply Kd.R_drewN | apply Kd.R_drew)); exact HO497.out) hb); have n2_ := Aside0.mk (Kd.R_below (by (with_reducible repeat (first | apply Kd.R_alloc | apply Kd.R_drewN | apply Kd.R_drew)); exact HO500.out) hb); have n3_ := Aside0.mk (Kd.R_elder' (by (with_reducible repeat (first | apply Kd.R_alloc | apply Kd.R_drewN | apply Kd.R_drew)); exact HO503.out) (Kd.R_base ho0) hb); have n4_ := Aside0.mk (Kd.V_elder' (by (with_reducible repeat (first | apply Kd.V_alloc | apply Kd.V_drewN | apply Kd.V_drew)); exact HO506.out) (Kd.R_base ho0) hb); have n5_ := Aside0.mk (Kd.R_lower (Kd.R_new' (Kd.R_mono (ok' := fun k_ => True) ho0 (fun _ hk_ => trivial)) (Kd.R_lt (by (with_reducible repeat (first | apply Kd.R_alloc | apply Kd.R_drewN | apply Kd.R_drew)); exact HO503.out))) (below_size (by repeat (first | (with_reducible first | exact HB.out | apply below_alloc | apply pw_below_drewN | apply below_drew1 | refine below_set ?_ GE491.out | refine below_set ?_ GE508.out) | exact HB.out)))); have n6_ := Aside0.mk (Kd.V_lower (Kd.V_mono (ok' := fun k_ => some k_ ≠ (v511 : Value).ownBlock ∧ some k_ ≠ (.slice Ao20 t495.length co20 : Value).ownBlock ∧ some k_ ≠ (.slice Ao28 t498.length co28 : Value).ownBlock ∧ some k_ ≠ (v502 : Value).ownBlock ∧ k_ ≠ gb491 ∧ k_ ≠ gb508) ho1 (fun k_ hk_ => ⟨hk_.2, Or.elim hk_.1 (fun hs_ => hs_.1) (fun hn_ => (Kd.fresh' (Kd.R_lt (by (with_reducible repeat (first | apply Kd.R_alloc | apply Kd.R_drewN | apply Kd.R_drew)); exact HO497.out)) k_ hn_)), Or.elim hk_.1 (fun hs_ => hs_.2.1) (fun hn_ => (Kd.fresh' (Kd.R_lt (by (with_reducible repeat (first | apply Kd.R_alloc | apply Kd.R_drewN | apply Kd.R_drew)); exact HO500.out)) k_ hn_)), Or.elim hk_.1 (fun hs_ => hs_.2.2.1) (fun hn_ => (Kd.fresh' (Kd.R_lt (by (with_reducible repeat (first | apply Kd.R_alloc | apply Kd.R_drewN | apply Kd.R_drew)); exact HO503.out)) k_ hn_)), Or.elim hk_.1 (fun hs_ => hs_.2.2.2.1) (fun hn_ => (Kd.freshB (g := gb491) (o := .cells #[.slice Ao16 t492.length co16] 24 (0, 0)) (by (with_reducible repeat (first | refine blk_drewN ?_ _ | refine blk_drew ?_ | refine blk_alloc ?_ _)); exact BK491.out) k_ hn_)), Or.elim hk_.1 (fun hs_ => hs_.2.2.2.2) (fun hn_ => (Kd.freshB (g := gb508) (o := .cells #[.slice Ao23 t504.length co23] 24 (0, 0)) (by (with_reducible repeat (first | refine blk_drewN ?_ _ | refine blk_drew ?_ | refine blk_alloc ?_ _)); exact BK508.out) k_ hn_))⟩)) (below_size (by repeat (first | (with_reducible first | exact HB.out | apply below_alloc | apply pw_below_drewN | apply below_drew1 | refine below_set ?_ GE491.out | refine below_set ?_ GE508.out) | exact HB.out)))); have n7_ := Aside0.mk (blk_below (g := gb491) (o := .cells #[.slice Ao16 t492.length co16] 24 (0, 0)) (by (with_reducible repeat (first | refine blk_drewN ?_ _ | refine blk_drew ?_ | refine blk_alloc ?_ _)); exact BK491.out) hb); have n8_ := Aside0.mk (blk_below (g := gb508) (o := .cells #[.slice Ao23 t504.length co23] 24 (0, 0)) (by (with_reducible repeat (first | refine blk_drewN ?_ _ | refine blk_drew ?_ | refine blk_alloc ?_ _)); exact BK508.out) hb); have n9_ := Aside0.mk (below_step (by repeat (first | (with_reducible first | exact HB.out | apply below_alloc | apply pw_below_drewN | apply below_drew1 | refine below_set ?_ GE491.out | refine below_set ?_ GE508.out) | exact HB.out)) hb); clear HO494; clear HO497; clear HO500; clear HO503; clear HO506; clear BK491; clear BK508; clear HB; have HO494 := n0_; have HO497 := n1_; have HO500 := n2_; have HO503 := n3_; have HO506 := n4_; have HO512 := n5_; have HO515 := n6_; have BK491 := n7_; have BK508 := n8_; have HB := n9_; clear n0_ n1_ n2_ n3_ n4_ n5_ n6_ n7_ n8_ n9_; (try clear hb); (try clear hb2); (try clear hk); (try clear hi); (try clear ho0); (try clear ho1)) | ((with_reducible refine gate_dst (N := 11) rfl ?_); (try (refine gate_guard (by rfl) ?_; dsimp only)); refine box_event ?hg (N := 11) ?hd (cs := #[.slice none 0 0]) (t := 24) ?hr ?_; (case hd => rfl); (case hg => rfl); (case hr => first | (go_simp; done) | (go_simp; rfl)); intro gb517 hg w30 hbox hb; have n0_ := Aside0.mk (Kd.R_below (by (with_reducible repeat (first | apply Kd.R_alloc | apply Kd.R_drewN | apply Kd.R_drew)); exact HO494.out) hb); have n1_ := Aside0.mk (Kd.R_below (by (with_reducible repeat (first | apply Kd.R_alloc | apply Kd.R_drewN | apply Kd.R_drew)); exact HO497.out) hb); have n2_ := Aside0.mk (Kd.R_below (by (with_reducible repeat (first | apply Kd.R_alloc | apply Kd.R_drewN | apply Kd.R_drew)); exact HO500.out) hb); have n3_ := Aside0.mk (Kd.R_below (by (with_reducible repeat (first | apply Kd.R_alloc | apply Kd.R_drewN | apply Kd.R_drew)); exact HO503.out) hb); have n4_ := Aside0.mk (Kd.V_below (Kd.V_elderB (by (with_reducible repeat (first | apply Kd.V_alloc | apply Kd.V_drewN | apply Kd.V_drew)); exact HO506.out) gb517 (Nat.le_of_eq hg.symm)) hb); have n5_ := Aside0.mk (Kd.R_below (by (with_reducible repeat (first | apply Kd.R_alloc | apply Kd.R_drewN | apply Kd.R_drew)); exact HO512.out) hb); have n6_ := Aside0.mk (Kd.V_below (Kd.V_elderB (by (with_reducible repeat (first | apply Kd.V_alloc | apply Kd.V_drewN | apply Kd.V_drew)); exact HO515.out) gb517 (Nat.le_of_eq hg.symm)) hb); have n7_ := Aside0.mk (blk_below (g := gb491) (o := .cells #[.slice Ao16 t492.length co16] 24 (0, 0)) (by (with_reducible repeat (first | refine blk_drewN ?_ _ | refine blk_drew ?_ | refine blk_alloc ?_ _)); exact BK491.out) hb); have n8_ := Aside0.mk (blk_below (g := gb508) (o := .cells #[.slice Ao23 t504.length co23] 24 (0, 0)) (by (with_reducible repeat (first | refine blk_drewN ?_ _ | refine blk_drew ?_ | refine blk_alloc ?_ _)); exact BK508.out) hb); have n9_ := Aside0.mk (below_step (by repeat (first | (with_reducible first | exact HB.out | apply below_alloc | apply pw_below_drewN | apply below_drew1 | refine below_set ?_ GE491.out | refine below_set ?_ GE508.out) | exact HB.out)) hb); have n10_ := Aside0.mk (hbox); have n11_ := Aside0.mk ((by rw [hg]; exact (below_size (by repeat (first | (with_reducible first | exact HB.out | apply below_alloc | apply pw_below_drewN | apply below_drew1 | refine below_set ?_ GE491.out | refine below_set ?_ GE508.out) | exact HB.out))) : w.heap.size ≤ gb517)); have n12_ := Aside0.mk ((by rw [hg]; exact (below_size (by repeat (first | (with_reducible first | exact HB.out | apply below_alloc | apply pw_below_drewN | apply below_drew1 | refine below_set ?_ GE491.out | refine below_set ?_ GE508.out) | exact HB.out))) : w.heap.size ≤ gb517)); have n13_ := Aside0.mk ((by rw [hg]; exact Nat.ne_of_lt (blk_lt (g := gb491) (o := .cells #[.slice Ao16 t492.length co16] 24 (0, 0)) (by (with_reducible repeat (first | refine blk_drewN ?_ _ | refine blk_drew ?_ | refine blk_alloc ?_ _)); exact BK491.out)) : gb491 ≠ gb517)); have n14_ := Aside0.mk ((by rw [hg]; exact Nat.ne_of_gt (blk_lt (g := gb491) (o := .cells #[.slice Ao16 t492.length co16] 24 (0, 0)) (by (with_reducible repeat (first | refine blk_drewN ?_ _ | refine blk_drew ?_ | refine blk_alloc ?_ _)); exact BK491.out)) : gb517 ≠ gb491)); have n15_ := Aside0.mk ((by rw [hg]; exact Nat.ne_of_lt (blk_lt (g := gb508) (o := .cells #[.slice Ao23 t504.length co23] 24 (0, 0)) (by (with_reducible repeat (first | refine blk_drewN ?_ _ | refine blk_drew ?_ | refine blk_alloc ?_ _)); exact BK508.out)) : gb508 ≠ gb517)); have n16_ := Aside0.mk ((by rw [hg]; exact Nat.ne_of_gt (blk_lt (g := gb508) (o := .cells #[.slice Ao23 t504.length co23] 24 (0, 0)) (by (with_reducible repeat (first | refine blk_drewN ?_ _ | refine blk_drew ?_ | refine blk_alloc ?_ _)); exact BK508.out)) : gb517 ≠ gb508)); clear HO494; clear HO497; clear HO500; clear HO503; clear HO506; clear HO512; clear HO515; clear BK491; clear BK508; clear HB; have HO494 := n0_; have HO497 := n1_; have HO500 := n2_; have HO503 := n3_; have HO506 := n4_; have HO512 := n5_; have HO515 := n6_; have BK491 := n7_; have BK508 := n8_; have HB := n9_; have BK517 := n10_; have GW517 := n11_; have GE517 := n12_; have NB491_517 := n13_; have NB517_491 := n14_; have NB508_517 := n15_; have NB517_508 := n16_; clear n0_ n1_ n2_ n3_ n4_ n5_ n6_ n7_ n8_ n9_ n10_ n11_ n12_ n13_ n14_ n15_ n16_; clear hb hbox hg; obtain ⟨Ao31, co31, eo31⟩ := Kd.V_slice HO515.out; subst eo31; have hnb32 := NB517_491.out; have hnc32 := NB491_517.out; have hnb33 := NB517_508.out; have hnc33 := NB508_517.out; have hcz34_0 : w30.cell? ⟨gb517, 0, none⟩ = some (.slice none 0 0) := (blk_cell BK517.out 0).trans rfl; have hfz34_0 := blk_frozen BK517.out 0))
    (try simp only [Act.put, List.setIfInBounds_toArray, List.set_cons_zero, List.set_cons_succ])
    go_cut [] (fun wc => ∃ (kq : Nat) (x518000_9 : List (S34)) (u518000 : Value), Aside0 (graftwoodlaw10_InternStays.j0 kq t495 t501 t492 x518000_9 = some r) ∧ Aside0 (kq ≤ k) ∧ Aside0 (Kd.R k34 34 wc w.heap.size (fun k_ => some k_ ≠ ((.slice Ao16 t492.length co16) : Value).ownBlock) (.slice Ao20 t495.length co20) t495) ∧ Aside0 (Kd.R (Kd.int .i64) 3 wc w.heap.size (fun _ => True) v502 t501) ∧ Aside0 (Kd.R k34 34 wc w.heap.size (fun k_ => some k_ ≠ ((.slice Ao20 t495.length co20) : Value).ownBlock) (.slice Ao16 t492.length co16) t492) ∧ Aside0 (Kd.V k34 34 wc w.heap.size (fun k_ => some k_ ≠ ((.slice Ao20 t495.length co20) : Value).ownBlock ∧ some k_ ≠ (v502 : Value).ownBlock ∧ k_ ≠ gb491 ∧ k_ ≠ gb508 ∧ k_ ≠ gb517) (.slice Ao23 t504.length co23) t504) ∧ Aside0 (Kd.V k34 34 wc w.heap.size (fun k_ => some k_ ≠ ((.slice Ao20 t495.length co20) : Value).ownBlock ∧ some k_ ≠ (v502 : Value).ownBlock ∧ k_ ≠ gb491 ∧ k_ ≠ gb508 ∧ k_ ≠ gb517) u518000 x518000_9) ∧ Aside0 (wc.heap[gb491]? = some (.cells #[(.slice Ao16 t492.length co16)] 24 (0, 0))) ∧ Aside0 (wc.heap[gb508]? = some (.cells #[(.slice Ao23 t504.length co23)] 24 (0, 0))) ∧ Aside0 (wc.heap[gb517]? = some (.cells #[u518000] 24 (0, 0))) ∧ Aside0 (Below w.heap.size w wc))
    case first =>
      have H := HC10.out
      clear HC10
      by_cases c35 : t516 = 0
      · rw [if_pos c35] at H
        have c35b0 : (t516 == 0) = true := beq_iff_eq.mpr c35
        have c35b1 : (t516 != 0) = false := bne_eq_false_iff_eq.mpr c35
        clear c35
        (first | rw [c35b0] | (simp only [i64_w, i32_w]; rw [c35b0]) | skip)
        have H' := Aside0.mk H
        clear H
        go_wp2
        go_meet
        case rel => exact ⟨_, (t513), (.slice Ao31 t513.length co31), H', ⟨by first | omega | exact Nat.le_refl _⟩, ⟨by (with_reducible repeat (first | apply Kd.R_alloc | apply Kd.R_drewN | apply Kd.R_drew)); exact Kd.R_mono (Kd.R_far (p := ⟨gb517, 0, none⟩) (Kd.R_types HO497.out BK517.out (by decide)) (fun _ hk => hk.2) (.slice Ao31 t513.length co31)) (fun _ hk => hk.1.1)⟩, ⟨by (with_reducible repeat (first | apply Kd.R_alloc | apply Kd.R_drewN | apply Kd.R_drew)); exact Kd.R_mono (Kd.R_far (p := ⟨gb517, 0, none⟩) (Kd.R_types HO503.out BK517.out (by decide)) (fun _ hk => hk.2) (.slice Ao31 t513.length co31)) (fun _ hk => trivial)⟩, ⟨by (with_reducible repeat (first | apply Kd.R_alloc | apply Kd.R_drewN | apply Kd.R_drew)); exact Kd.R_mono (Kd.R_far (p := ⟨gb517, 0, none⟩) (Kd.R_types HO494.out BK517.out (by decide)) (fun _ hk => hk.2) (.slice Ao31 t513.length co31)) (fun _ hk => hk.1.1)⟩, ⟨by (with_reducible repeat (first | apply Kd.V_alloc | apply Kd.V_drewN | apply Kd.V_drew)); exact Kd.V_mono (Kd.V_far (p := ⟨gb517, 0, none⟩) (Kd.V_mono HO506.out (fun k_ hk => (⟨hk, hk.2⟩ : _ ∧ k_ ≠ gb517))) (fun _ hk => hk.2) (.slice Ao31 t513.length co31)) (fun _ hk => ⟨hk.1.1.1.1, ⟨hk.1.1.1.2.2.1, ⟨hk.1.1.1.2.2.2.1, ⟨hk.1.1.1.2.2.2.2, hk.1.2⟩⟩⟩⟩)⟩, ⟨by (with_reducible repeat (first | apply Kd.V_alloc | apply Kd.V_drewN | apply Kd.V_drew)); exact Kd.V_mono (Kd.V_far (p := ⟨gb517, 0, none⟩) (Kd.V_mono HO515.out (fun k_ hk => (⟨hk, hk.2⟩ : _ ∧ k_ ≠ gb517))) (fun _ hk => hk.2) (.slice Ao31 t513.length co31)) (fun _ hk => ⟨hk.1.1.2.1, ⟨hk.1.1.2.2.2.1, ⟨hk.1.1.2.2.2.2.1, ⟨hk.1.1.2.2.2.2.2, hk.1.2⟩⟩⟩⟩)⟩, ⟨by (with_reducible repeat (first | refine blk_drewN ?_ _ | refine blk_drew ?_ | refine blk_alloc ?_ _)); refine blk_far ?_ NB491_517.out _; (with_reducible repeat (first | refine blk_drewN ?_ _ | refine blk_drew ?_ | refine blk_alloc ?_ _)); exact BK491.out⟩, ⟨by (with_reducible repeat (first | refine blk_drewN ?_ _ | refine blk_drew ?_ | refine blk_alloc ?_ _)); refine blk_far ?_ NB508_517.out _; (with_reducible repeat (first | refine blk_drewN ?_ _ | refine blk_drew ?_ | refine blk_alloc ?_ _)); exact BK508.out⟩, ⟨by (with_reducible repeat (first | refine blk_drewN ?_ _ | refine blk_drew ?_ | refine blk_alloc ?_ _)); refine blk_put (cs := #[.slice none 0 0]) ?_ 0 _ rfl; (with_reducible repeat (first | refine blk_drewN ?_ _ | refine blk_drew ?_ | refine blk_alloc ?_ _)); exact BK517.out⟩, ⟨by repeat (first | (with_reducible first | exact HB.out | apply below_alloc | apply pw_below_drewN | apply below_drew1 | refine below_set ?_ GE491.out | refine below_set ?_ GE508.out | refine below_set ?_ GE517.out) | exact HB.out)⟩⟩
      · rw [if_neg c35] at H
        have c35b0 : (t516 == 0) = false := beq_eq_false_iff_ne.mpr c35
        have c35b1 : (t516 != 0) = true := bne_iff_ne.mpr c35
        (first | rw [c35b0] | (simp only [i64_w, i32_w]; rw [c35b0]) | skip)
        have H' := Aside0.mk H
        clear H
        have hnb36 := NB508_491.out
        have hnc36 := NB491_508.out
        have hnb37 := NB508_517.out
        have hnc37 := NB517_508.out
        have hcz38_0 : w30.cell? ⟨gb508, 0, none⟩ = some (.slice Ao23 t504.length co23) := (blk_cell BK508.out 0).trans rfl
        have hfz38_0 := blk_frozen BK508.out 0
        have hnb39 := NB517_491.out
        have hnc39 := NB491_517.out
        have hcz40_0 : w30.cell? ⟨gb517, 0, none⟩ = some (.slice none 0 0) := (blk_cell BK517.out 0).trans rfl
        have hfz40_0 := blk_frozen BK517.out 0
        go_wp2
        go_meet
        case rel => exact ⟨_, (t504), (.slice Ao23 t504.length co23), H', ⟨by first | omega | exact Nat.le_refl _⟩, ⟨by (with_reducible repeat (first | apply Kd.R_alloc | apply Kd.R_drewN | apply Kd.R_drew)); exact Kd.R_mono (Kd.R_far (p := ⟨gb517, 0, none⟩) (Kd.R_far (p := ⟨gb517, 0, none⟩) (Kd.R_types HO497.out BK517.out (by decide)) (fun _ hk => hk.2) (.slice Ao31 t513.length co31)) (fun _ hk => hk.2) (.slice Ao23 t504.length co23)) (fun _ hk => hk.1.1)⟩, ⟨by (with_reducible repeat (first | apply Kd.R_alloc | apply Kd.R_drewN | apply Kd.R_drew)); exact Kd.R_mono (Kd.R_far (p := ⟨gb517, 0, none⟩) (Kd.R_far (p := ⟨gb517, 0, none⟩) (Kd.R_types HO503.out BK517.out (by decide)) (fun _ hk => hk.2) (.slice Ao31 t513.length co31)) (fun _ hk => hk.2) (.slice Ao23 t504.length co23)) (fun _ hk => trivial)⟩, ⟨by (with_reducible repeat (first | apply Kd.R_alloc | apply Kd.R_drewN | apply Kd.R_drew)); exact Kd.R_mono (Kd.R_far (p := ⟨gb517, 0, none⟩) (Kd.R_far (p := ⟨gb517, 0, none⟩) (Kd.R_types HO494.out BK517.out (by decide)) (fun _ hk => hk.2) (.slice Ao31 t513.length co31)) (fun _ hk => hk.2) (.slice Ao23 t504.length co23)) (fun _ hk => hk.1.1)⟩, ⟨by (with_reducible repeat (first | apply Kd.V_alloc | apply Kd.V_drewN | apply Kd.V_drew)); exact Kd.V_mono (Kd.V_far (p := ⟨gb517, 0, none⟩) (Kd.V_far (p := ⟨gb517, 0, none⟩) (Kd.V_mono HO506.out (fun k_ hk => (⟨hk, hk.2⟩ : _ ∧ k_ ≠ gb517))) (fun _ hk => hk.2) (.slice Ao31 t513.length co31)) (fun _ hk => hk.2) (.slice Ao23 t504.length co23)) (fun _ hk => ⟨hk.1.1.1.1, ⟨hk.1.1.1.2.2.1, ⟨hk.1.1.1.2.2.2.1, ⟨hk.1.1.1.2.2.2.2, hk.1.2⟩⟩⟩⟩)⟩, ⟨by (with_reducible repeat (first | apply Kd.V_alloc | apply Kd.V_drewN | apply Kd.V_drew)); exact Kd.V_mono (Kd.V_far (p := ⟨gb517, 0, none⟩) (Kd.V_far (p := ⟨gb517, 0, none⟩) (Kd.V_mono HO506.out (fun k_ hk => (⟨hk, hk.2⟩ : _ ∧ k_ ≠ gb517))) (fun _ hk => hk.2) (.slice Ao31 t513.length co31)) (fun _ hk => hk.2) (.slice Ao23 t504.length co23)) (fun _ hk => ⟨hk.1.1.1.1, ⟨hk.1.1.1.2.2.1, ⟨hk.1.1.1.2.2.2.1, ⟨hk.1.1.1.2.2.2.2, hk.1.2⟩⟩⟩⟩)⟩, ⟨by (with_reducible repeat (first | refine blk_drewN ?_ _ | refine blk_drew ?_ | refine blk_alloc ?_ _)); refine blk_far ?_ NB491_517.out _; (with_reducible repeat (first | refine blk_drewN ?_ _ | refine blk_drew ?_ | refine blk_alloc ?_ _)); refine blk_far ?_ NB491_517.out _; (with_reducible repeat (first | refine blk_drewN ?_ _ | refine blk_drew ?_ | refine blk_alloc ?_ _)); exact BK491.out⟩, ⟨by (with_reducible repeat (first | refine blk_drewN ?_ _ | refine blk_drew ?_ | refine blk_alloc ?_ _)); refine blk_far ?_ NB508_517.out _; (with_reducible repeat (first | refine blk_drewN ?_ _ | refine blk_drew ?_ | refine blk_alloc ?_ _)); refine blk_far ?_ NB508_517.out _; (with_reducible repeat (first | refine blk_drewN ?_ _ | refine blk_drew ?_ | refine blk_alloc ?_ _)); exact BK508.out⟩, ⟨by (with_reducible repeat (first | refine blk_drewN ?_ _ | refine blk_drew ?_ | refine blk_alloc ?_ _)); refine blk_put (cs := #[.slice Ao31 t513.length co31]) ?_ 0 _ rfl; (with_reducible repeat (first | refine blk_drewN ?_ _ | refine blk_drew ?_ | refine blk_alloc ?_ _)); refine blk_put (cs := #[.slice none 0 0]) ?_ 0 _ rfl; (with_reducible repeat (first | refine blk_drewN ?_ _ | refine blk_drew ?_ | refine blk_alloc ?_ _)); exact BK517.out⟩, ⟨by repeat (first | (with_reducible first | exact HB.out | apply below_alloc | apply pw_below_drewN | apply below_drew1 | refine below_set ?_ GE491.out | refine below_set ?_ GE508.out | refine below_set ?_ GE517.out) | exact HB.out)⟩⟩
    case rest =>
      clear HC10
      try clear c1
      try clear c2
      try clear p2
      try clear c3
      try clear c7
      try clear c8
      try clear c8b0
      try clear c8b1
      try clear c9
      try clear c10
      try clear c24
      try clear c32
      try clear c33
      try clear c35
      try clear c35b0
      try clear c35b1
      try clear c36
      try clear c37
      try clear c39
      try clear hcz12_0
      try clear hcz17_0
      try clear hcz19_0
      try clear hcz25_0
      try clear hcz27_0
      try clear hcz34_0
      try clear hcz38_0
      try clear hcz40_0
      try clear hfz12_0
      try clear hfz17_0
      try clear hfz19_0
      try clear hfz25_0
      try clear hfz27_0
      try clear hfz34_0
      try clear hfz38_0
      try clear hfz40_0
      obtain ⟨kq, x518000_9, u518000, HA, HJ9, HO_1, HO_7, HO_492000, HO_509000, HO_518000, BK491, BK508, BK517, HB⟩ := hcut
      cases kq with
      | zero => exact absurd HA.out (by simp [graftwoodlaw10_InternStays.j0])
      | succ kj9 =>
        have H := HA.out
        clear HA
        simp only [graftwoodlaw10_InternStays.j0] at H
        replace H := Option.bind_eq_some_iff.mp H
        obtain ⟨⟨t518, t521, t524⟩, A410, H⟩ := H
        replace H : (if t524 = 0 then ((graftwoodlaw10_same.f kj9 t521 x518000_9).bind fun t526 => (if t526 = true then (if (t501.length : Int) = (t518.length : Int) then (if (t501.length : Int) = (t495.length : Int) then ((intern_Check.f kj9 x518000_9).bind fun t527 => (if t527 = 0 then (graftwoodlaw10_InternStays.j1 kj9 t495 t501 t518 (decide ((x518000_9.length : Int) < (t492.length : Int))) x518000_9) else (graftwoodlaw10_InternStays.j1 kj9 t495 t501 t518 true x518000_9))) else (graftwoodlaw10_InternStays.j1 kj9 t495 t501 t518 true x518000_9)) else (graftwoodlaw10_InternStays.j1 kj9 t495 t501 t518 true x518000_9)) else (graftwoodlaw10_InternStays.j1 kj9 t495 t501 t518 true x518000_9))) else (graftwoodlaw10_InternStays.j1 kj9 t495 t501 t518 true x518000_9)) = some r := H
        have A41 := Aside0.mk A410
        clear A410
        have HC42 := Aside0.mk H
        clear H
        have hnb43 := NB517_491.out
        have hnc43 := NB491_517.out
        have hnb44 := NB517_508.out
        have hnc44 := NB508_517.out
        have hcz45_0 : wc.cell? ⟨gb517, 0, none⟩ = some (u518000) := (blk_cell BK517.out 0).trans rfl
        have hfz45_0 := blk_frozen BK517.out 0
        obtain ⟨Ao46, co46, eo46⟩ := Kd.V_slice HO_518000.out
        subst eo46
        go_upto_region 9 with (first | ((with_reducible refine gate_callee (f := 10) rfl ?_); refine goesL_ (some 51) rfl rfl Tryd.func10 (by kernel_rfl) rfl #[.agg #[.slice Ao46 x518000_9.length co46], .slice Ao20 t495.length co20] rfl (by (try simp only [List.map_toArray, List.map_cons, List.map_nil]); first | done | rfl | (simp only [List.length_drop, List.length_take]; rfl)) ?_; (with_reducible refine (intern_All.calls kj9 (fun k_ => (some k_ ≠ (.slice Ao20 t495.length co20 : Value).ownBlock ∧ (some k_ ≠ (v502 : Value).ownBlock ∧ (k_ ≠ gb491 ∧ (k_ ≠ gb508 ∧ k_ ≠ gb517))))) _ _ x518000_9 _ _ t495 t518 t521 t524 _ ?side1 ?side2 ?side3 A41.out).mono ?_); (case side1 => exact HO_518000.out); (case side2 => repeat (first | exact (Kd.R_reads' HO_1.out).2.2 | (with_reducible refine Kd.C_alloc ?_ _) | (with_reducible refine Kd.C_drewN ?_ _) | (with_reducible refine Kd.C_drew ?_))); (case side3 => exact (Kd.R_reads' HO_1.out).2.1); rintro e w47 ⟨v519, v522, rfl, ho0, ho1, hb⟩; refine ⟨_, rfl, ?_⟩; have n0_ := Aside0.mk (Kd.R_below (by (with_reducible repeat (first | apply Kd.R_alloc | apply Kd.R_drewN | apply Kd.R_drew)); exact HO_1.out) hb); have n1_ := Aside0.mk (Kd.R_elder' (by (with_reducible repeat (first | apply Kd.R_alloc | apply Kd.R_drewN | apply Kd.R_drew)); exact HO_7.out) (Kd.R_base ho0) hb); have n2_ := Aside0.mk (Kd.R_below (by (with_reducible repeat (first | apply Kd.R_alloc | apply Kd.R_drewN | apply Kd.R_drew)); exact HO_492000.out) hb); have n3_ := Aside0.mk (Kd.V_elder' (by (with_reducible repeat (first | apply Kd.V_alloc | apply Kd.V_drewN | apply Kd.V_drew)); exact HO_509000.out) (Kd.R_base ho0) hb); have n4_ := Aside0.mk (Kd.V_elder' (by (with_reducible repeat (first | apply Kd.V_alloc | apply Kd.V_drewN | apply Kd.V_drew)); exact HO_518000.out) (Kd.R_base ho0) hb); have n5_ := Aside0.mk (Kd.R_lower (Kd.R_new' (Kd.R_mono (ok' := fun k_ => True) ho0 (fun _ hk_ => trivial)) (Kd.R_lt (by (with_reducible repeat (first | apply Kd.R_alloc | apply Kd.R_drewN | apply Kd.R_drew)); exact HO_7.out))) (below_size (by repeat (first | (with_reducible first | exact HB.out | apply below_alloc | apply pw_below_drewN | apply below_drew1 | refine below_set ?_ GE491.out | refine below_set ?_ GE508.out | refine below_set ?_ GE517.out) | exact HB.out)))); have n6_ := Aside0.mk (Kd.V_lower (Kd.V_mono (ok' := fun k_ => some k_ ≠ (v519 : Value).ownBlock ∧ some k_ ≠ (.slice Ao20 t495.length co20 : Value).ownBlock ∧ some k_ ≠ (v502 : Value).ownBlock ∧ k_ ≠ gb491 ∧ k_ ≠ gb508 ∧ k_ ≠ gb517) ho1 (fun k_ hk_ => ⟨hk_.2, Or.elim hk_.1 (fun hs_ => hs_.1) (fun hn_ => (Kd.fresh' (Kd.R_lt (by (with_reducible repeat (first | apply Kd.R_alloc | apply Kd.R_drewN | apply Kd.R_drew)); exact HO_1.out)) k_ hn_)), Or.elim hk_.1 (fun hs_ => hs_.2.1) (fun hn_ => (Kd.fresh' (Kd.R_lt (by (with_reducible repeat (first | apply Kd.R_alloc | apply Kd.R_drewN | apply Kd.R_drew)); exact HO_7.out)) k_ hn_)), Or.elim hk_.1 (fun hs_ => hs_.2.2.1) (fun hn_ => (Kd.freshB (g := gb491) (o := .cells #[.slice Ao16 t492.length co16] 24 (0, 0)) (by (with_reducible repeat (first | refine blk_drewN ?_ _ | refine blk_drew ?_ | refine blk_alloc ?_ _)); exact BK491.out) k_ hn_)), Or.elim hk_.1 (fun hs_ => hs_.2.2.2.1) (fun hn_ => (Kd.freshB (g := gb508) (o := .cells #[.slice Ao23 t504.length co23] 24 (0, 0)) (by (with_reducible repeat (first | refine blk_drewN ?_ _ | refine blk_drew ?_ | refine blk_alloc ?_ _)); exact BK508.out) k_ hn_)), Or.elim hk_.1 (fun hs_ => hs_.2.2.2.2) (fun hn_ => (Kd.freshB (g := gb517) (o := .cells #[.slice Ao46 x518000_9.length co46] 24 (0, 0)) (by (with_reducible repeat (first | refine blk_drewN ?_ _ | refine blk_drew ?_ | refine blk_alloc ?_ _)); exact BK517.out) k_ hn_))⟩)) (below_size (by repeat (first | (with_reducible first | exact HB.out | apply below_alloc | apply pw_below_drewN | apply below_drew1 | refine below_set ?_ GE491.out | refine below_set ?_ GE508.out | refine below_set ?_ GE517.out) | exact HB.out)))); have n7_ := Aside0.mk (blk_below (g := gb491) (o := .cells #[.slice Ao16 t492.length co16] 24 (0, 0)) (by (with_reducible repeat (first | refine blk_drewN ?_ _ | refine blk_drew ?_ | refine blk_alloc ?_ _)); exact BK491.out) hb); have n8_ := Aside0.mk (blk_below (g := gb508) (o := .cells #[.slice Ao23 t504.length co23] 24 (0, 0)) (by (with_reducible repeat (first | refine blk_drewN ?_ _ | refine blk_drew ?_ | refine blk_alloc ?_ _)); exact BK508.out) hb); have n9_ := Aside0.mk (blk_below (g := gb517) (o := .cells #[.slice Ao46 x518000_9.length co46] 24 (0, 0)) (by (with_reducible repeat (first | refine blk_drewN ?_ _ | refine blk_drew ?_ | refine blk_alloc ?_ _)); exact BK517.out) hb); have n10_ := Aside0.mk (below_step (by repeat (first | (with_reducible first | exact HB.out | apply below_alloc | apply pw_below_drewN | apply below_drew1 | refine below_set ?_ GE491.out | refine below_set ?_ GE508.out | refine below_set ?_ GE517.out) | exact HB.out)) hb); clear HO_1; clear HO_7; clear HO_492000; clear HO_509000; clear HO_518000; clear BK491; clear BK508; clear BK517; clear HB; have HO_1 := n0_; have HO_7 := n1_; have HO_492000 := n2_; have HO_509000 := n3_; have HO_518000 := n4_; have HO520 := n5_; have HO523 := n6_; have BK491 := n7_; have BK508 := n8_; have BK517 := n9_; have HB := n10_; clear n0_ n1_ n2_ n3_ n4_ n5_ n6_ n7_ n8_ n9_ n10_; (try clear hb); (try clear hb2); (try clear hk); (try clear hi); (try clear ho0); (try clear ho1)) | ((with_reducible refine gate_dst (N := 14) rfl ?_); (try (refine gate_guard (by rfl) ?_; dsimp only)); refine box_event ?hg (N := 14) ?hd (cs := #[.slice none 0 0]) (t := 24) ?hr ?_; (case hd => rfl); (case hg => rfl); (case hr => first | (go_simp; done) | (go_simp; rfl)); intro gb525 hg w48 hbox hb; have n0_ := Aside0.mk (Kd.R_below (by (with_reducible repeat (first | apply Kd.R_alloc | apply Kd.R_drewN | apply Kd.R_drew)); exact HO_1.out) hb); have n1_ := Aside0.mk (Kd.R_below (by (with_reducible repeat (first | apply Kd.R_alloc | apply Kd.R_drewN | apply Kd.R_drew)); exact HO_7.out) hb); have n2_ := Aside0.mk (Kd.R_below (by (with_reducible repeat (first | apply Kd.R_alloc | apply Kd.R_drewN | apply Kd.R_drew)); exact HO_492000.out) hb); have n3_ := Aside0.mk (Kd.V_below (Kd.V_elderB (by (with_reducible repeat (first | apply Kd.V_alloc | apply Kd.V_drewN | apply Kd.V_drew)); exact HO_509000.out) gb525 (Nat.le_of_eq hg.symm)) hb); have n4_ := Aside0.mk (Kd.V_below (Kd.V_elderB (by (with_reducible repeat (first | apply Kd.V_alloc | apply Kd.V_drewN | apply Kd.V_drew)); exact HO_518000.out) gb525 (Nat.le_of_eq hg.symm)) hb); have n5_ := Aside0.mk (Kd.R_below (by (with_reducible repeat (first | apply Kd.R_alloc | apply Kd.R_drewN | apply Kd.R_drew)); exact HO520.out) hb); have n6_ := Aside0.mk (Kd.V_below (Kd.V_elderB (by (with_reducible repeat (first | apply Kd.V_alloc | apply Kd.V_drewN | apply Kd.V_drew)); exact HO523.out) gb525 (Nat.le_of_eq hg.symm)) hb); have n7_ := Aside0.mk (blk_below (g := gb491) (o := .cells #[.slice Ao16 t492.length co16] 24 (0, 0)) (by (with_reducible repeat (first | refine blk_drewN ?_ _ | refine blk_drew ?_ | refine blk_alloc ?_ _)); exact BK491.out) hb); have n8_ := Aside0.mk (blk_below (g := gb508) (o := .cells #[.slice Ao23 t504.length co23] 24 (0, 0)) (by (with_reducible repeat (first | refine blk_drewN ?_ _ | refine blk_drew ?_ | refine blk_alloc ?_ _)); exact BK508.out) hb); have n9_ := Aside0.mk (blk_below (g := gb517) (o := .cells #[.slice Ao46 x518000_9.length co46] 24 (0, 0)) (by (with_reducible repeat (first | refine blk_drewN ?_ _ | refine blk_drew ?_ | refine blk_alloc ?_ _)); exact BK517.out) hb); have n10_ := Aside0.mk (below_step (by repeat (first | (with_reducible first | exact HB.out | apply below_alloc | apply pw_below_drewN | apply below_drew1 | refine below_set ?_ GE491.out | refine below_set ?_ GE508.out | refine below_set ?_ GE517.out) | exact HB.out)) hb); have n11_ := Aside0.mk (hbox); have n12_ := Aside0.mk ((by rw [hg]; exact (below_size (by repeat (first | (with_reducible first | exact HB.out | apply below_alloc | apply pw_below_drewN | apply below_drew1 | refine below_set ?_ GE491.out | refine below_set ?_ GE508.out | refine below_set ?_ GE517.out) | exact HB.out))) : w.heap.size ≤ gb525)); have n13_ := Aside0.mk ((by rw [hg]; exact (below_size (by repeat (first | (with_reducible first | exact HB.out | apply below_alloc | apply pw_below_drewN | apply below_drew1 | refine below_set ?_ GE491.out | refine below_set ?_ GE508.out | refine below_set ?_ GE517.out) | exact HB.out))) : w.heap.size ≤ gb525)); have n14_ := Aside0.mk ((by rw [hg]; exact Nat.ne_of_lt (blk_lt (g := gb491) (o := .cells #[.slice Ao16 t492.length co16] 24 (0, 0)) (by (with_reducible repeat (first | refine blk_drewN ?_ _ | refine blk_drew ?_ | refine blk_alloc ?_ _)); exact BK491.out)) : gb491 ≠ gb525)); have n15_ := Aside0.mk ((by rw [hg]; exact Nat.ne_of_gt (blk_lt (g := gb491) (o := .cells #[.slice Ao16 t492.length co16] 24 (0, 0)) (by (with_reducible repeat (first | refine blk_drewN ?_ _ | refine blk_drew ?_ | refine blk_alloc ?_ _)); exact BK491.out)) : gb525 ≠ gb491)); have n16_ := Aside0.mk ((by rw [hg]; exact Nat.ne_of_lt (blk_lt (g := gb508) (o := .cells #[.slice Ao23 t504.length co23] 24 (0, 0)) (by (with_reducible repeat (first | refine blk_drewN ?_ _ | refine blk_drew ?_ | refine blk_alloc ?_ _)); exact BK508.out)) : gb508 ≠ gb525)); have n17_ := Aside0.mk ((by rw [hg]; exact Nat.ne_of_gt (blk_lt (g := gb508) (o := .cells #[.slice Ao23 t504.length co23] 24 (0, 0)) (by (with_reducible repeat (first | refine blk_drewN ?_ _ | refine blk_drew ?_ | refine blk_alloc ?_ _)); exact BK508.out)) : gb525 ≠ gb508)); have n18_ := Aside0.mk ((by rw [hg]; exact Nat.ne_of_lt (blk_lt (g := gb517) (o := .cells #[.slice Ao46 x518000_9.length co46] 24 (0, 0)) (by (with_reducible repeat (first | refine blk_drewN ?_ _ | refine blk_drew ?_ | refine blk_alloc ?_ _)); exact BK517.out)) : gb517 ≠ gb525)); have n19_ := Aside0.mk ((by rw [hg]; exact Nat.ne_of_gt (blk_lt (g := gb517) (o := .cells #[.slice Ao46 x518000_9.length co46] 24 (0, 0)) (by (with_reducible repeat (first | refine blk_drewN ?_ _ | refine blk_drew ?_ | refine blk_alloc ?_ _)); exact BK517.out)) : gb525 ≠ gb517)); clear HO_1; clear HO_7; clear HO_492000; clear HO_509000; clear HO_518000; clear HO520; clear HO523; clear BK491; clear BK508; clear BK517; clear HB; have HO_1 := n0_; have HO_7 := n1_; have HO_492000 := n2_; have HO_509000 := n3_; have HO_518000 := n4_; have HO520 := n5_; have HO523 := n6_; have BK491 := n7_; have BK508 := n8_; have BK517 := n9_; have HB := n10_; have BK525 := n11_; have GW525 := n12_; have GE525 := n13_; have NB491_525 := n14_; have NB525_491 := n15_; have NB508_525 := n16_; have NB525_508 := n17_; have NB517_525 := n18_; have NB525_517 := n19_; clear n0_ n1_ n2_ n3_ n4_ n5_ n6_ n7_ n8_ n9_ n10_ n11_ n12_ n13_ n14_ n15_ n16_ n17_ n18_ n19_; clear hb hbox hg; obtain ⟨Ao49, co49, eo49⟩ := Kd.V_slice HO523.out; subst eo49; have hnb50 := NB525_491.out; have hnc50 := NB491_525.out; have hnb51 := NB525_508.out; have hnc51 := NB508_525.out; have hnb52 := NB525_517.out; have hnc52 := NB517_525.out; have hcz53_0 : w48.cell? ⟨gb525, 0, none⟩ = some (.slice none 0 0) := (blk_cell BK525.out 0).trans rfl; have hfz53_0 := blk_frozen BK525.out 0))
        (try simp only [Act.put, List.setIfInBounds_toArray, List.set_cons_zero, List.set_cons_succ])
        go_cut [90] (fun v90 wc => ∃ (kq : Nat) (x90_41 : Bool), v90 = .bool x90_41 ∧ Aside0 (graftwoodlaw10_InternStays.j1 kq t495 t501 t518 x90_41 x518000_9 = some r) ∧ Aside0 (kq ≤ kj9) ∧ Aside0 (Kd.R k34 34 wc w.heap.size (fun k_ => some k_ ≠ ((.slice Ao16 t492.length co16) : Value).ownBlock) (.slice Ao20 t495.length co20) t495) ∧ Aside0 (Kd.R (Kd.int .i64) 3 wc w.heap.size (fun k_ => some k_ ≠ (v519 : Value).ownBlock) v502 t501) ∧ Aside0 (Kd.R (Kd.int .i64) 3 wc w.heap.size (fun k_ => some k_ ≠ (v502 : Value).ownBlock) v519 t518) ∧ Aside0 (Kd.R k34 34 wc w.heap.size (fun k_ => some k_ ≠ ((.slice Ao20 t495.length co20) : Value).ownBlock) (.slice Ao16 t492.length co16) t492) ∧ Aside0 (Kd.V k34 34 wc w.heap.size (fun k_ => some k_ ≠ ((.slice Ao20 t495.length co20) : Value).ownBlock ∧ some k_ ≠ (v502 : Value).ownBlock ∧ some k_ ≠ (v519 : Value).ownBlock ∧ k_ ≠ gb491 ∧ k_ ≠ gb508 ∧ k_ ≠ gb517 ∧ k_ ≠ gb525) (.slice Ao23 t504.length co23) t504) ∧ Aside0 (Kd.V k34 34 wc w.heap.size (fun k_ => some k_ ≠ ((.slice Ao20 t495.length co20) : Value).ownBlock ∧ some k_ ≠ (v502 : Value).ownBlock ∧ some k_ ≠ (v519 : Value).ownBlock ∧ k_ ≠ gb491 ∧ k_ ≠ gb508 ∧ k_ ≠ gb517 ∧ k_ ≠ gb525) (.slice Ao46 x518000_9.length co46) x518000_9) ∧ Aside0 (Kd.V k34 34 wc w.heap.size (fun k_ => some k_ ≠ ((.slice Ao20 t495.length co20) : Value).ownBlock ∧ some k_ ≠ (v502 : Value).ownBlock ∧ some k_ ≠ (v519 : Value).ownBlock ∧ k_ ≠ gb491 ∧ k_ ≠ gb508 ∧ k_ ≠ gb517 ∧ k_ ≠ gb525) (.slice Ao49 t521.length co49) t521) ∧ Aside0 (wc.heap[gb491]? = some (.cells #[(.slice Ao16 t492.length co16)] 24 (0, 0))) ∧ Aside0 (wc.heap[gb508]? = some (.cells #[(.slice Ao23 t504.length co23)] 24 (0, 0))) ∧ Aside0 (wc.heap[gb517]? = some (.cells #[(.slice Ao46 x518000_9.length co46)] 24 (0, 0))) ∧ Aside0 (wc.heap[gb525]? = some (.cells #[(.slice Ao49 t521.length co49)] 24 (0, 0))) ∧ Aside0 (Below w.heap.size w wc))
        case first =>
          have H := HC42.out
          clear HC42
          by_cases c54 : t524 = 0
          · rw [if_pos c54] at H
            have c54b0 : (t524 == 0) = true := beq_iff_eq.mpr c54
            have c54b1 : (t524 != 0) = false := bne_eq_false_iff_eq.mpr c54
            clear c54
            (first | rw [c54b0] | (simp only [i64_w, i32_w]; rw [c54b0]) | skip)
            replace H := Option.bind_eq_some_iff.mp H
            obtain ⟨t526, A550, H⟩ := H
            replace H : (if t526 = true then (if (t501.length : Int) = (t518.length : Int) then (if (t501.length : Int) = (t495.length : Int) then ((intern_Check.f kj9 x518000_9).bind fun t527 => (if t527 = 0 then (graftwoodlaw10_InternStays.j1 kj9 t495 t501 t518 (decide ((x518000_9.length : Int) < (t492.length : Int))) x518000_9) else (graftwoodlaw10_InternStays.j1 kj9 t495 t501 t518 true x518000_9))) else (graftwoodlaw10_InternStays.j1 kj9 t495 t501 t518 true x518000_9)) else (graftwoodlaw10_InternStays.j1 kj9 t495 t501 t518 true x518000_9)) else (graftwoodlaw10_InternStays.j1 kj9 t495 t501 t518 true x518000_9)) = some r := H
            have A55 := Aside0.mk A550
            clear A550
            by_cases c56 : t526 = true
            · subst c56
              have H1 : (if (t501.length : Int) = (t518.length : Int) then (if (t501.length : Int) = (t495.length : Int) then ((intern_Check.f kj9 x518000_9).bind fun t527 => (if t527 = 0 then (graftwoodlaw10_InternStays.j1 kj9 t495 t501 t518 (decide ((x518000_9.length : Int) < (t492.length : Int))) x518000_9) else (graftwoodlaw10_InternStays.j1 kj9 t495 t501 t518 true x518000_9))) else (graftwoodlaw10_InternStays.j1 kj9 t495 t501 t518 true x518000_9)) else (graftwoodlaw10_InternStays.j1 kj9 t495 t501 t518 true x518000_9)) = some r := by rw [if_pos rfl] at H; exact H
              clear H
              have H := H1
              clear H1
              by_cases c57 : (t501.length : Int) = (t518.length : Int)
              · rw [if_pos c57] at H
                have c57b0 : ((t501.length : Int) == (t518.length : Int)) = true := beq_iff_eq.mpr c57
                have c57b1 : ((t501.length : Int) != (t518.length : Int)) = false := bne_eq_false_iff_eq.mpr c57
                have c57b2 : (t501.length == t518.length) = true := by first | simpa using c57 | (simp at c57 ⊢; omega)
                clear c57
                by_cases c58 : (t501.length : Int) = (t495.length : Int)
                · rw [if_pos c58] at H
                  have c58b0 : ((t501.length : Int) == (t495.length : Int)) = true := beq_iff_eq.mpr c58
                  have c58b1 : ((t501.length : Int) != (t495.length : Int)) = false := bne_eq_false_iff_eq.mpr c58
                  have c58b2 : (t501.length == t495.length) = true := by first | simpa using c58 | (simp at c58 ⊢; omega)
                  clear c58
                  replace H := Option.bind_eq_some_iff.mp H
                  obtain ⟨t527, A590, H⟩ := H
                  replace H : (if t527 = 0 then (graftwoodlaw10_InternStays.j1 kj9 t495 t501 t518 (decide ((x518000_9.length : Int) < (t492.length : Int))) x518000_9) else (graftwoodlaw10_InternStays.j1 kj9 t495 t501 t518 true x518000_9)) = some r := H
                  have A59 := Aside0.mk A590
                  clear A590
                  by_cases c60 : t527 = 0
                  · rw [if_pos c60] at H
                    have c60b0 : (t527 == 0) = true := beq_iff_eq.mpr c60
                    have c60b1 : (t527 != 0) = false := bne_eq_false_iff_eq.mpr c60
                    clear c60
                    have H' := Aside0.mk H
                    clear H
                    have hnb61 := NB525_491.out
                    have hnc61 := NB491_525.out
                    have hnb62 := NB525_508.out
                    have hnc62 := NB508_525.out
                    have hnb63 := NB525_517.out
                    have hnc63 := NB517_525.out
                    have hcz64_0 : w48.cell? ⟨gb525, 0, none⟩ = some (.slice none 0 0) := (blk_cell BK525.out 0).trans rfl
                    have hfz64_0 := blk_frozen BK525.out 0
                    have hnb65 := NB517_491.out
                    have hnc65 := NB491_517.out
                    have hnb66 := NB517_508.out
                    have hnc66 := NB508_517.out
                    have hcz67_0 : w48.cell? ⟨gb517, 0, none⟩ = some (.slice Ao46 x518000_9.length co46) := (blk_cell BK517.out 0).trans rfl
                    have hfz67_0 := blk_frozen BK517.out 0
                    go_wp2_with (first | (go_at_call 13; (with_reducible refine (graftwoodlaw10_same.calls kj9 _ _ t521 _ _ x518000_9 true _ ?side1 ?side2 ?side3 ?side4 A55.out).mono ?_); (case side1 => refine (Kd.V_reads' (e := 34) (base := w.heap.size) (ok := fun k_ => ((some k_ ≠ (v519 : Value).ownBlock ∧ (some k_ ≠ (.slice Ao20 t495.length co20 : Value).ownBlock ∧ (some k_ ≠ (v502 : Value).ownBlock ∧ (k_ ≠ gb491 ∧ (k_ ≠ gb508 ∧ k_ ≠ gb517))))) ∧ k_ ≠ gb525)) (n := t521.length) (c := co49) ?_).2.2; exact (by (with_reducible repeat (first | apply Kd.V_alloc | apply Kd.V_drewN | apply Kd.V_drew)); exact (Kd.V_mono (Kd.V_far (p := ⟨gb525, 0, none⟩) (Kd.V_mono HO523.out (fun k_ hk => (⟨hk, hk.2⟩ : _ ∧ k_ ≠ gb525))) (fun _ hk => hk.2) (.slice Ao49 t521.length co49)) (fun _ h_ => h_.1)))); (case side2 => exact (Kd.V_reads' HO523.out).2.1); (case side3 => refine (Kd.V_reads' (e := 34) (base := w.heap.size) (ok := fun k_ => (((some k_ ≠ (.slice Ao20 t495.length co20 : Value).ownBlock ∧ (some k_ ≠ (v502 : Value).ownBlock ∧ (k_ ≠ gb491 ∧ (k_ ≠ gb508 ∧ k_ ≠ gb517)))) ∧ some k_ ≠ (v519 : Value).ownBlock) ∧ k_ ≠ gb525)) (n := x518000_9.length) (c := co46) ?_).2.2; exact (by (with_reducible repeat (first | apply Kd.V_alloc | apply Kd.V_drewN | apply Kd.V_drew)); exact (Kd.V_mono (Kd.V_far (p := ⟨gb525, 0, none⟩) (Kd.V_mono HO_518000.out (fun k_ hk => (⟨hk, hk.2⟩ : _ ∧ k_ ≠ gb525))) (fun _ hk => hk.2) (.slice Ao49 t521.length co49)) (fun _ h_ => h_.1)))); (case side4 => exact (Kd.V_reads' HO_518000.out).2.1); rintro e w68 ⟨rfl, hb⟩; have n0_ := Aside0.mk (Kd.R_below (by (with_reducible repeat (first | apply Kd.R_alloc | apply Kd.R_drewN | apply Kd.R_drew)); exact (Kd.R_mono (Kd.R_far (p := ⟨gb525, 0, none⟩) (Kd.R_types HO_1.out BK525.out (by decide)) (fun _ hk => hk.2) (.slice Ao49 t521.length co49)) (fun _ h_ => h_.1))) hb); have n1_ := Aside0.mk (Kd.R_below (by (with_reducible repeat (first | apply Kd.R_alloc | apply Kd.R_drewN | apply Kd.R_drew)); exact (Kd.R_mono (Kd.R_far (p := ⟨gb525, 0, none⟩) (Kd.R_types HO_7.out BK525.out (by decide)) (fun _ hk => hk.2) (.slice Ao49 t521.length co49)) (fun _ h_ => h_.1))) hb); have n2_ := Aside0.mk (Kd.R_below (by (with_reducible repeat (first | apply Kd.R_alloc | apply Kd.R_drewN | apply Kd.R_drew)); exact (Kd.R_mono (Kd.R_far (p := ⟨gb525, 0, none⟩) (Kd.R_types HO_492000.out BK525.out (by decide)) (fun _ hk => hk.2) (.slice Ao49 t521.length co49)) (fun _ h_ => h_.1))) hb); have n3_ := Aside0.mk (Kd.V_below (by (with_reducible repeat (first | apply Kd.V_alloc | apply Kd.V_drewN | apply Kd.V_drew)); exact (Kd.V_mono (Kd.V_far (p := ⟨gb525, 0, none⟩) (Kd.V_mono HO_509000.out (fun k_ hk => (⟨hk, hk.2⟩ : _ ∧ k_ ≠ gb525))) (fun _ hk => hk.2) (.slice Ao49 t521.length co49)) (fun _ h_ => h_.1))) hb); have n4_ := Aside0.mk (Kd.V_below (by (with_reducible repeat (first | apply Kd.V_alloc | apply Kd.V_drewN | apply Kd.V_drew)); exact (Kd.V_mono (Kd.V_far (p := ⟨gb525, 0, none⟩) (Kd.V_mono HO_518000.out (fun k_ hk => (⟨hk, hk.2⟩ : _ ∧ k_ ≠ gb525))) (fun _ hk => hk.2) (.slice Ao49 t521.length co49)) (fun _ h_ => h_.1))) hb); have n5_ := Aside0.mk (Kd.R_below (by (with_reducible repeat (first | apply Kd.R_alloc | apply Kd.R_drewN | apply Kd.R_drew)); exact (Kd.R_mono (Kd.R_far (p := ⟨gb525, 0, none⟩) (Kd.R_types HO520.out BK525.out (by decide)) (fun _ hk => hk.2) (.slice Ao49 t521.length co49)) (fun _ h_ => h_.1))) hb); have n6_ := Aside0.mk (Kd.V_below (by (with_reducible repeat (first | apply Kd.V_alloc | apply Kd.V_drewN | apply Kd.V_drew)); exact (Kd.V_mono (Kd.V_far (p := ⟨gb525, 0, none⟩) (Kd.V_mono HO523.out (fun k_ hk => (⟨hk, hk.2⟩ : _ ∧ k_ ≠ gb525))) (fun _ hk => hk.2) (.slice Ao49 t521.length co49)) (fun _ h_ => h_.1))) hb); have n7_ := Aside0.mk (blk_below (g := gb491) (o := .cells #[.slice Ao16 t492.length co16] 24 (0, 0)) (by (with_reducible repeat (first | refine blk_drewN ?_ _ | refine blk_drew ?_ | refine blk_alloc ?_ _)); refine blk_far ?_ NB491_525.out _; (with_reducible repeat (first | refine blk_drewN ?_ _ | refine blk_drew ?_ | refine blk_alloc ?_ _)); exact BK491.out) hb); have n8_ := Aside0.mk (blk_below (g := gb508) (o := .cells #[.slice Ao23 t504.length co23] 24 (0, 0)) (by (with_reducible repeat (first | refine blk_drewN ?_ _ | refine blk_drew ?_ | refine blk_alloc ?_ _)); refine blk_far ?_ NB508_525.out _; (with_reducible repeat (first | refine blk_drewN ?_ _ | refine blk_drew ?_ | refine blk_alloc ?_ _)); exact BK508.out) hb); have n9_ := Aside0.mk (blk_below (g := gb517) (o := .cells #[.slice Ao46 x518000_9.length co46] 24 (0, 0)) (by (with_reducible repeat (first | refine blk_drewN ?_ _ | refine blk_drew ?_ | refine blk_alloc ?_ _)); refine blk_far ?_ NB517_525.out _; (with_reducible repeat (first | refine blk_drewN ?_ _ | refine blk_drew ?_ | refine blk_alloc ?_ _)); exact BK517.out) hb); have n10_ := Aside0.mk (blk_below (g := gb525) (o := .cells #[.slice Ao49 t521.length co49] 24 (0, 0)) (by (with_reducible repeat (first | refine blk_drewN ?_ _ | refine blk_drew ?_ | refine blk_alloc ?_ _)); refine blk_put (cs := #[.slice none 0 0]) ?_ 0 _ rfl; (with_reducible repeat (first | refine blk_drewN ?_ _ | refine blk_drew ?_ | refine blk_alloc ?_ _)); exact BK525.out) hb); have n11_ := Aside0.mk (below_step (by repeat (first | (with_reducible first | exact HB.out | apply below_alloc | apply pw_below_drewN | apply below_drew1 | refine below_set ?_ GE491.out | refine below_set ?_ GE508.out | refine below_set ?_ GE517.out | refine below_set ?_ GE525.out) | exact HB.out)) hb); clear HO_1; clear HO_7; clear HO_492000; clear HO_509000; clear HO_518000; clear HO520; clear HO523; clear BK491; clear BK508; clear BK517; clear BK525; clear HB; have HO_1 := n0_; have HO_7 := n1_; have HO_492000 := n2_; have HO_509000 := n3_; have HO_518000 := n4_; have HO520 := n5_; have HO523 := n6_; have BK491 := n7_; have BK508 := n8_; have BK517 := n9_; have BK525 := n10_; have HB := n11_; clear n0_ n1_ n2_ n3_ n4_ n5_ n6_ n7_ n8_ n9_ n10_ n11_; (try clear hb); (try clear hb2); (try clear hk); (try clear hi); obtain ⟨Ao69, co69, eo69⟩ := Kd.R_slice HO_7.out; subst eo69; obtain ⟨Ao70, co70, eo70⟩ := Kd.R_slice HO520.out; subst eo70; have hcz71_0 : w68.cell? ⟨gb517, 0, none⟩ = some (.slice Ao46 x518000_9.length co46) := (blk_cell BK517.out 0).trans rfl; have hfz71_0 := blk_frozen BK517.out 0) | (go_at_call 17; (with_reducible refine (intern_Check.calls kj9 _ _ x518000_9 t527 _ ?side1 ?side2 A59.out).mono ?_); (case side1 => repeat (first | exact (Kd.V_reads' HO_518000.out).2.2 | (with_reducible refine Kd.C_alloc ?_ _) | (with_reducible refine Kd.C_drewN ?_ _) | (with_reducible refine Kd.C_drew ?_))); (case side2 => exact (Kd.V_reads' HO_518000.out).2.1); rintro e w72 ⟨rfl, hb⟩; have n0_ := Aside0.mk (Kd.R_below (by (with_reducible repeat (first | apply Kd.R_alloc | apply Kd.R_drewN | apply Kd.R_drew)); exact HO_1.out) hb); have n1_ := Aside0.mk (Kd.R_below (by (with_reducible repeat (first | apply Kd.R_alloc | apply Kd.R_drewN | apply Kd.R_drew)); exact HO_7.out) hb); have n2_ := Aside0.mk (Kd.R_below (by (with_reducible repeat (first | apply Kd.R_alloc | apply Kd.R_drewN | apply Kd.R_drew)); exact HO_492000.out) hb); have n3_ := Aside0.mk (Kd.V_below (by (with_reducible repeat (first | apply Kd.V_alloc | apply Kd.V_drewN | apply Kd.V_drew)); exact HO_509000.out) hb); have n4_ := Aside0.mk (Kd.V_below (by (with_reducible repeat (first | apply Kd.V_alloc | apply Kd.V_drewN | apply Kd.V_drew)); exact HO_518000.out) hb); have n5_ := Aside0.mk (Kd.R_below (by (with_reducible repeat (first | apply Kd.R_alloc | apply Kd.R_drewN | apply Kd.R_drew)); exact HO520.out) hb); have n6_ := Aside0.mk (Kd.V_below (by (with_reducible repeat (first | apply Kd.V_alloc | apply Kd.V_drewN | apply Kd.V_drew)); exact HO523.out) hb); have n7_ := Aside0.mk (blk_below (g := gb491) (o := .cells #[.slice Ao16 t492.length co16] 24 (0, 0)) (by (with_reducible repeat (first | refine blk_drewN ?_ _ | refine blk_drew ?_ | refine blk_alloc ?_ _)); exact BK491.out) hb); have n8_ := Aside0.mk (blk_below (g := gb508) (o := .cells #[.slice Ao23 t504.length co23] 24 (0, 0)) (by (with_reducible repeat (first | refine blk_drewN ?_ _ | refine blk_drew ?_ | refine blk_alloc ?_ _)); exact BK508.out) hb); have n9_ := Aside0.mk (blk_below (g := gb517) (o := .cells #[.slice Ao46 x518000_9.length co46] 24 (0, 0)) (by (with_reducible repeat (first | refine blk_drewN ?_ _ | refine blk_drew ?_ | refine blk_alloc ?_ _)); exact BK517.out) hb); have n10_ := Aside0.mk (blk_below (g := gb525) (o := .cells #[.slice Ao49 t521.length co49] 24 (0, 0)) (by (with_reducible repeat (first | refine blk_drewN ?_ _ | refine blk_drew ?_ | refine blk_alloc ?_ _)); exact BK525.out) hb); have n11_ := Aside0.mk (below_step (by repeat (first | (with_reducible first | exact HB.out | apply below_alloc | apply pw_below_drewN | apply below_drew1 | refine below_set ?_ GE491.out | refine below_set ?_ GE508.out | refine below_set ?_ GE517.out | refine below_set ?_ GE525.out) | exact HB.out)) hb); clear HO_1; clear HO_7; clear HO_492000; clear HO_509000; clear HO_518000; clear HO520; clear HO523; clear BK491; clear BK508; clear BK517; clear BK525; clear HB; have HO_1 := n0_; have HO_7 := n1_; have HO_492000 := n2_; have HO_509000 := n3_; have HO_518000 := n4_; have HO520 := n5_; have HO523 := n6_; have BK491 := n7_; have BK508 := n8_; have BK517 := n9_; have BK525 := n10_; have HB := n11_; clear n0_ n1_ n2_ n3_ n4_ n5_ n6_ n7_ n8_ n9_ n10_ n11_; (try clear hb); (try clear hb2); (try clear hk); (try clear hi); have hcz73_0 : w72.cell? ⟨gb517, 0, none⟩ = some (.slice Ao46 x518000_9.length co46) := (blk_cell BK517.out 0).trans rfl; have hfz73_0 := blk_frozen BK517.out 0; have hnb74 := NB491_508.out; have hnc74 := NB508_491.out; have hcz75_0 : w72.cell? ⟨gb491, 0, none⟩ = some (.slice Ao16 t492.length co16) := (blk_cell BK491.out 0).trans rfl; have hfz75_0 := blk_frozen BK491.out 0))
                    go_meet
                    case rel => exact ⟨_, (decide ((x518000_9.length : Int) < (t492.length : Int))), (by first | rfl | (simp; done) | (simp [*]; done)), H', ⟨by have := HJ9.out; first | omega | exact Nat.le_refl _⟩, ⟨by (with_reducible repeat (first | apply Kd.R_alloc | apply Kd.R_drewN | apply Kd.R_drew)); exact HO_1.out⟩, ⟨by (with_reducible repeat (first | apply Kd.R_alloc | apply Kd.R_drewN | apply Kd.R_drew)); exact Kd.R_mono HO_7.out (fun _ hk => hk.2)⟩, ⟨by (with_reducible repeat (first | apply Kd.R_alloc | apply Kd.R_drewN | apply Kd.R_drew)); exact Kd.R_mono HO520.out (fun _ hk => hk.2)⟩, ⟨by (with_reducible repeat (first | apply Kd.R_alloc | apply Kd.R_drewN | apply Kd.R_drew)); exact HO_492000.out⟩, ⟨by (with_reducible repeat (first | apply Kd.V_alloc | apply Kd.V_drewN | apply Kd.V_drew)); exact Kd.V_mono HO_509000.out (fun _ hk => ⟨hk.1.1.1, ⟨hk.1.1.2.1, ⟨hk.1.2, ⟨hk.1.1.2.2.1, ⟨hk.1.1.2.2.2.1, ⟨hk.1.1.2.2.2.2, hk.2⟩⟩⟩⟩⟩⟩)⟩, ⟨by (with_reducible repeat (first | apply Kd.V_alloc | apply Kd.V_drewN | apply Kd.V_drew)); exact Kd.V_mono HO_518000.out (fun _ hk => ⟨hk.1.1.1, ⟨hk.1.1.2.1, ⟨hk.1.2, ⟨hk.1.1.2.2.1, ⟨hk.1.1.2.2.2.1, ⟨hk.1.1.2.2.2.2, hk.2⟩⟩⟩⟩⟩⟩)⟩, ⟨by (with_reducible repeat (first | apply Kd.V_alloc | apply Kd.V_drewN | apply Kd.V_drew)); exact Kd.V_mono HO523.out (fun _ hk => ⟨hk.1.2.1, ⟨hk.1.2.2.1, ⟨hk.1.1, ⟨hk.1.2.2.2.1, ⟨hk.1.2.2.2.2.1, ⟨hk.1.2.2.2.2.2, hk.2⟩⟩⟩⟩⟩⟩)⟩, ⟨by (with_reducible repeat (first | refine blk_drewN ?_ _ | refine blk_drew ?_ | refine blk_alloc ?_ _)); exact BK491.out⟩, ⟨by (with_reducible repeat (first | refine blk_drewN ?_ _ | refine blk_drew ?_ | refine blk_alloc ?_ _)); exact BK508.out⟩, ⟨by (with_reducible repeat (first | refine blk_drewN ?_ _ | refine blk_drew ?_ | refine blk_alloc ?_ _)); exact BK517.out⟩, ⟨by (with_reducible repeat (first | refine blk_drewN ?_ _ | refine blk_drew ?_ | refine blk_alloc ?_ _)); exact BK525.out⟩, ⟨by repeat (first | (with_reducible first | exact HB.out | apply below_alloc | apply pw_below_drewN | apply below_drew1 | refine below_set ?_ GE491.out | refine below_set ?_ GE508.out | refine below_set ?_ GE517.out | refine below_set ?_ GE525.out) | exact HB.out)⟩⟩
                  · rw [if_neg c60] at H
                    have c60b0 : (t527 == 0) = false := beq_eq_false_iff_ne.mpr c60
                    have c60b1 : (t527 != 0) = true := bne_iff_ne.mpr c60
                    have H' := Aside0.mk H
                    clear H
                    have hnb76 := NB525_491.out
                    have hnc76 := NB491_525.out
                    have hnb77 := NB525_508.out
                    have hnc77 := NB508_525.out
                    have hnb78 := NB525_517.out
                    have hnc78 := NB517_525.out
                    have hcz79_0 : w48.cell? ⟨gb525, 0, none⟩ = some (.slice none 0 0) := (blk_cell BK525.out 0).trans rfl
                    have hfz79_0 := blk_frozen BK525.out 0
                    have hnb80 := NB517_491.out
                    have hnc80 := NB491_517.out
                    have hnb81 := NB517_508.out
                    have hnc81 := NB508_517.out
                    have hcz82_0 : w48.cell? ⟨gb517, 0, none⟩ = some (.slice Ao46 x518000_9.length co46) := (blk_cell BK517.out 0).trans rfl
                    have hfz82_0 := blk_frozen BK517.out 0
                    go_wp2_with (first | (go_at_call 13; (with_reducible refine (graftwoodlaw10_same.calls kj9 _ _ t521 _ _ x518000_9 true _ ?side1 ?side2 ?side3 ?side4 A55.out).mono ?_); (case side1 => refine (Kd.V_reads' (e := 34) (base := w.heap.size) (ok := fun k_ => ((some k_ ≠ (v519 : Value).ownBlock ∧ (some k_ ≠ (.slice Ao20 t495.length co20 : Value).ownBlock ∧ (some k_ ≠ (v502 : Value).ownBlock ∧ (k_ ≠ gb491 ∧ (k_ ≠ gb508 ∧ k_ ≠ gb517))))) ∧ k_ ≠ gb525)) (n := t521.length) (c := co49) ?_).2.2; exact (by (with_reducible repeat (first | apply Kd.V_alloc | apply Kd.V_drewN | apply Kd.V_drew)); exact (Kd.V_mono (Kd.V_far (p := ⟨gb525, 0, none⟩) (Kd.V_mono HO523.out (fun k_ hk => (⟨hk, hk.2⟩ : _ ∧ k_ ≠ gb525))) (fun _ hk => hk.2) (.slice Ao49 t521.length co49)) (fun _ h_ => h_.1)))); (case side2 => exact (Kd.V_reads' HO523.out).2.1); (case side3 => refine (Kd.V_reads' (e := 34) (base := w.heap.size) (ok := fun k_ => (((some k_ ≠ (.slice Ao20 t495.length co20 : Value).ownBlock ∧ (some k_ ≠ (v502 : Value).ownBlock ∧ (k_ ≠ gb491 ∧ (k_ ≠ gb508 ∧ k_ ≠ gb517)))) ∧ some k_ ≠ (v519 : Value).ownBlock) ∧ k_ ≠ gb525)) (n := x518000_9.length) (c := co46) ?_).2.2; exact (by (with_reducible repeat (first | apply Kd.V_alloc | apply Kd.V_drewN | apply Kd.V_drew)); exact (Kd.V_mono (Kd.V_far (p := ⟨gb525, 0, none⟩) (Kd.V_mono HO_518000.out (fun k_ hk => (⟨hk, hk.2⟩ : _ ∧ k_ ≠ gb525))) (fun _ hk => hk.2) (.slice Ao49 t521.length co49)) (fun _ h_ => h_.1)))); (case side4 => exact (Kd.V_reads' HO_518000.out).2.1); rintro e w83 ⟨rfl, hb⟩; have n0_ := Aside0.mk (Kd.R_below (by (with_reducible repeat (first | apply Kd.R_alloc | apply Kd.R_drewN | apply Kd.R_drew)); exact (Kd.R_mono (Kd.R_far (p := ⟨gb525, 0, none⟩) (Kd.R_types HO_1.out BK525.out (by decide)) (fun _ hk => hk.2) (.slice Ao49 t521.length co49)) (fun _ h_ => h_.1))) hb); have n1_ := Aside0.mk (Kd.R_below (by (with_reducible repeat (first | apply Kd.R_alloc | apply Kd.R_drewN | apply Kd.R_drew)); exact (Kd.R_mono (Kd.R_far (p := ⟨gb525, 0, none⟩) (Kd.R_types HO_7.out BK525.out (by decide)) (fun _ hk => hk.2) (.slice Ao49 t521.length co49)) (fun _ h_ => h_.1))) hb); have n2_ := Aside0.mk (Kd.R_below (by (with_reducible repeat (first | apply Kd.R_alloc | apply Kd.R_drewN | apply Kd.R_drew)); exact (Kd.R_mono (Kd.R_far (p := ⟨gb525, 0, none⟩) (Kd.R_types HO_492000.out BK525.out (by decide)) (fun _ hk => hk.2) (.slice Ao49 t521.length co49)) (fun _ h_ => h_.1))) hb); have n3_ := Aside0.mk (Kd.V_below (by (with_reducible repeat (first | apply Kd.V_alloc | apply Kd.V_drewN | apply Kd.V_drew)); exact (Kd.V_mono (Kd.V_far (p := ⟨gb525, 0, none⟩) (Kd.V_mono HO_509000.out (fun k_ hk => (⟨hk, hk.2⟩ : _ ∧ k_ ≠ gb525))) (fun _ hk => hk.2) (.slice Ao49 t521.length co49)) (fun _ h_ => h_.1))) hb); have n4_ := Aside0.mk (Kd.V_below (by (with_reducible repeat (first | apply Kd.V_alloc | apply Kd.V_drewN | apply Kd.V_drew)); exact (Kd.V_mono (Kd.V_far (p := ⟨gb525, 0, none⟩) (Kd.V_mono HO_518000.out (fun k_ hk => (⟨hk, hk.2⟩ : _ ∧ k_ ≠ gb525))) (fun _ hk => hk.2) (.slice Ao49 t521.length co49)) (fun _ h_ => h_.1))) hb); have n5_ := Aside0.mk (Kd.R_below (by (with_reducible repeat (first | apply Kd.R_alloc | apply Kd.R_drewN | apply Kd.R_drew)); exact (Kd.R_mono (Kd.R_far (p := ⟨gb525, 0, none⟩) (Kd.R_types HO520.out BK525.out (by decide)) (fun _ hk => hk.2) (.slice Ao49 t521.length co49)) (fun _ h_ => h_.1))) hb); have n6_ := Aside0.mk (Kd.V_below (by (with_reducible repeat (first | apply Kd.V_alloc | apply Kd.V_drewN | apply Kd.V_drew)); exact (Kd.V_mono (Kd.V_far (p := ⟨gb525, 0, none⟩) (Kd.V_mono HO523.out (fun k_ hk => (⟨hk, hk.2⟩ : _ ∧ k_ ≠ gb525))) (fun _ hk => hk.2) (.slice Ao49 t521.length co49)) (fun _ h_ => h_.1))) hb); have n7_ := Aside0.mk (blk_below (g := gb491) (o := .cells #[.slice Ao16 t492.length co16] 24 (0, 0)) (by (with_reducible repeat (first | refine blk_drewN ?_ _ | refine blk_drew ?_ | refine blk_alloc ?_ _)); refine blk_far ?_ NB491_525.out _; (with_reducible repeat (first | refine blk_drewN ?_ _ | refine blk_drew ?_ | refine blk_alloc ?_ _)); exact BK491.out) hb); have n8_ := Aside0.mk (blk_below (g := gb508) (o := .cells #[.slice Ao23 t504.length co23] 24 (0, 0)) (by (with_reducible repeat (first | refine blk_drewN ?_ _ | refine blk_drew ?_ | refine blk_alloc ?_ _)); refine blk_far ?_ NB508_525.out _; (with_reducible repeat (first | refine blk_drewN ?_ _ | refine blk_drew ?_ | refine blk_alloc ?_ _)); exact BK508.out) hb); have n9_ := Aside0.mk (blk_below (g := gb517) (o := .cells #[.slice Ao46 x518000_9.length co46] 24 (0, 0)) (by (with_reducible repeat (first | refine blk_drewN ?_ _ | refine blk_drew ?_ | refine blk_alloc ?_ _)); refine blk_far ?_ NB517_525.out _; (with_reducible repeat (first | refine blk_drewN ?_ _ | refine blk_drew ?_ | refine blk_alloc ?_ _)); exact BK517.out) hb); have n10_ := Aside0.mk (blk_below (g := gb525) (o := .cells #[.slice Ao49 t521.length co49] 24 (0, 0)) (by (with_reducible repeat (first | refine blk_drewN ?_ _ | refine blk_drew ?_ | refine blk_alloc ?_ _)); refine blk_put (cs := #[.slice none 0 0]) ?_ 0 _ rfl; (with_reducible repeat (first | refine blk_drewN ?_ _ | refine blk_drew ?_ | refine blk_alloc ?_ _)); exact BK525.out) hb); have n11_ := Aside0.mk (below_step (by repeat (first | (with_reducible first | exact HB.out | apply below_alloc | apply pw_below_drewN | apply below_drew1 | refine below_set ?_ GE491.out | refine below_set ?_ GE508.out | refine below_set ?_ GE517.out | refine below_set ?_ GE525.out) | exact HB.out)) hb); clear HO_1; clear HO_7; clear HO_492000; clear HO_509000; clear HO_518000; clear HO520; clear HO523; clear BK491; clear BK508; clear BK517; clear BK525; clear HB; have HO_1 := n0_; have HO_7 := n1_; have HO_492000 := n2_; have HO_509000 := n3_; have HO_518000 := n4_; have HO520 := n5_; have HO523 := n6_; have BK491 := n7_; have BK508 := n8_; have BK517 := n9_; have BK525 := n10_; have HB := n11_; clear n0_ n1_ n2_ n3_ n4_ n5_ n6_ n7_ n8_ n9_ n10_ n11_; (try clear hb); (try clear hb2); (try clear hk); (try clear hi); obtain ⟨Ao84, co84, eo84⟩ := Kd.R_slice HO_7.out; subst eo84; obtain ⟨Ao85, co85, eo85⟩ := Kd.R_slice HO520.out; subst eo85; have hcz86_0 : w83.cell? ⟨gb517, 0, none⟩ = some (.slice Ao46 x518000_9.length co46) := (blk_cell BK517.out 0).trans rfl; have hfz86_0 := blk_frozen BK517.out 0) | (go_at_call 17; (with_reducible refine (intern_Check.calls kj9 _ _ x518000_9 t527 _ ?side1 ?side2 A59.out).mono ?_); (case side1 => repeat (first | exact (Kd.V_reads' HO_518000.out).2.2 | (with_reducible refine Kd.C_alloc ?_ _) | (with_reducible refine Kd.C_drewN ?_ _) | (with_reducible refine Kd.C_drew ?_))); (case side2 => exact (Kd.V_reads' HO_518000.out).2.1); rintro e w87 ⟨rfl, hb⟩; have n0_ := Aside0.mk (Kd.R_below (by (with_reducible repeat (first | apply Kd.R_alloc | apply Kd.R_drewN | apply Kd.R_drew)); exact HO_1.out) hb); have n1_ := Aside0.mk (Kd.R_below (by (with_reducible repeat (first | apply Kd.R_alloc | apply Kd.R_drewN | apply Kd.R_drew)); exact HO_7.out) hb); have n2_ := Aside0.mk (Kd.R_below (by (with_reducible repeat (first | apply Kd.R_alloc | apply Kd.R_drewN | apply Kd.R_drew)); exact HO_492000.out) hb); have n3_ := Aside0.mk (Kd.V_below (by (with_reducible repeat (first | apply Kd.V_alloc | apply Kd.V_drewN | apply Kd.V_drew)); exact HO_509000.out) hb); have n4_ := Aside0.mk (Kd.V_below (by (with_reducible repeat (first | apply Kd.V_alloc | apply Kd.V_drewN | apply Kd.V_drew)); exact HO_518000.out) hb); have n5_ := Aside0.mk (Kd.R_below (by (with_reducible repeat (first | apply Kd.R_alloc | apply Kd.R_drewN | apply Kd.R_drew)); exact HO520.out) hb); have n6_ := Aside0.mk (Kd.V_below (by (with_reducible repeat (first | apply Kd.V_alloc | apply Kd.V_drewN | apply Kd.V_drew)); exact HO523.out) hb); have n7_ := Aside0.mk (blk_below (g := gb491) (o := .cells #[.slice Ao16 t492.length co16] 24 (0, 0)) (by (with_reducible repeat (first | refine blk_drewN ?_ _ | refine blk_drew ?_ | refine blk_alloc ?_ _)); exact BK491.out) hb); have n8_ := Aside0.mk (blk_below (g := gb508) (o := .cells #[.slice Ao23 t504.length co23] 24 (0, 0)) (by (with_reducible repeat (first | refine blk_drewN ?_ _ | refine blk_drew ?_ | refine blk_alloc ?_ _)); exact BK508.out) hb); have n9_ := Aside0.mk (blk_below (g := gb517) (o := .cells #[.slice Ao46 x518000_9.length co46] 24 (0, 0)) (by (with_reducible repeat (first | refine blk_drewN ?_ _ | refine blk_drew ?_ | refine blk_alloc ?_ _)); exact BK517.out) hb); have n10_ := Aside0.mk (blk_below (g := gb525) (o := .cells #[.slice Ao49 t521.length co49] 24 (0, 0)) (by (with_reducible repeat (first | refine blk_drewN ?_ _ | refine blk_drew ?_ | refine blk_alloc ?_ _)); exact BK525.out) hb); have n11_ := Aside0.mk (below_step (by repeat (first | (with_reducible first | exact HB.out | apply below_alloc | apply pw_below_drewN | apply below_drew1 | refine below_set ?_ GE491.out | refine below_set ?_ GE508.out | refine below_set ?_ GE517.out | refine below_set ?_ GE525.out) | exact HB.out)) hb); clear HO_1; clear HO_7; clear HO_492000; clear HO_509000; clear HO_518000; clear HO520; clear HO523; clear BK491; clear BK508; clear BK517; clear BK525; clear HB; have HO_1 := n0_; have HO_7 := n1_; have HO_492000 := n2_; have HO_509000 := n3_; have HO_518000 := n4_; have HO520 := n5_; have HO523 := n6_; have BK491 := n7_; have BK508 := n8_; have BK517 := n9_; have BK525 := n10_; have HB := n11_; clear n0_ n1_ n2_ n3_ n4_ n5_ n6_ n7_ n8_ n9_ n10_ n11_; (try clear hb); (try clear hb2); (try clear hk); (try clear hi)))
                    go_meet
                    case rel => exact ⟨_, (true), (by first | rfl | (simp; done) | (simp [*]; done)), H', ⟨by have := HJ9.out; first | omega | exact Nat.le_refl _⟩, ⟨by (with_reducible repeat (first | apply Kd.R_alloc | apply Kd.R_drewN | apply Kd.R_drew)); exact HO_1.out⟩, ⟨by (with_reducible repeat (first | apply Kd.R_alloc | apply Kd.R_drewN | apply Kd.R_drew)); exact Kd.R_mono HO_7.out (fun _ hk => hk.2)⟩, ⟨by (with_reducible repeat (first | apply Kd.R_alloc | apply Kd.R_drewN | apply Kd.R_drew)); exact Kd.R_mono HO520.out (fun _ hk => hk.2)⟩, ⟨by (with_reducible repeat (first | apply Kd.R_alloc | apply Kd.R_drewN | apply Kd.R_drew)); exact HO_492000.out⟩, ⟨by (with_reducible repeat (first | apply Kd.V_alloc | apply Kd.V_drewN | apply Kd.V_drew)); exact Kd.V_mono HO_509000.out (fun _ hk => ⟨hk.1.1.1, ⟨hk.1.1.2.1, ⟨hk.1.2, ⟨hk.1.1.2.2.1, ⟨hk.1.1.2.2.2.1, ⟨hk.1.1.2.2.2.2, hk.2⟩⟩⟩⟩⟩⟩)⟩, ⟨by (with_reducible repeat (first | apply Kd.V_alloc | apply Kd.V_drewN | apply Kd.V_drew)); exact Kd.V_mono HO_518000.out (fun _ hk => ⟨hk.1.1.1, ⟨hk.1.1.2.1, ⟨hk.1.2, ⟨hk.1.1.2.2.1, ⟨hk.1.1.2.2.2.1, ⟨hk.1.1.2.2.2.2, hk.2⟩⟩⟩⟩⟩⟩)⟩, ⟨by (with_reducible repeat (first | apply Kd.V_alloc | apply Kd.V_drewN | apply Kd.V_drew)); exact Kd.V_mono HO523.out (fun _ hk => ⟨hk.1.2.1, ⟨hk.1.2.2.1, ⟨hk.1.1, ⟨hk.1.2.2.2.1, ⟨hk.1.2.2.2.2.1, ⟨hk.1.2.2.2.2.2, hk.2⟩⟩⟩⟩⟩⟩)⟩, ⟨by (with_reducible repeat (first | refine blk_drewN ?_ _ | refine blk_drew ?_ | refine blk_alloc ?_ _)); exact BK491.out⟩, ⟨by (with_reducible repeat (first | refine blk_drewN ?_ _ | refine blk_drew ?_ | refine blk_alloc ?_ _)); exact BK508.out⟩, ⟨by (with_reducible repeat (first | refine blk_drewN ?_ _ | refine blk_drew ?_ | refine blk_alloc ?_ _)); exact BK517.out⟩, ⟨by (with_reducible repeat (first | refine blk_drewN ?_ _ | refine blk_drew ?_ | refine blk_alloc ?_ _)); exact BK525.out⟩, ⟨by repeat (first | (with_reducible first | exact HB.out | apply below_alloc | apply pw_below_drewN | apply below_drew1 | refine below_set ?_ GE491.out | refine below_set ?_ GE508.out | refine below_set ?_ GE517.out | refine below_set ?_ GE525.out) | exact HB.out)⟩⟩
                · rw [if_neg c58] at H
                  have c58b0 : ((t501.length : Int) == (t495.length : Int)) = false := beq_eq_false_iff_ne.mpr c58
                  have c58b1 : ((t501.length : Int) != (t495.length : Int)) = true := bne_iff_ne.mpr c58
                  have c58b2 : (t501.length == t495.length) = false := by first | simpa using c58 | (simp at c58 ⊢; omega)
                  have H' := Aside0.mk H
                  clear H
                  have hnb88 := NB525_491.out
                  have hnc88 := NB491_525.out
                  have hnb89 := NB525_508.out
                  have hnc89 := NB508_525.out
                  have hnb90 := NB525_517.out
                  have hnc90 := NB517_525.out
                  have hcz91_0 : w48.cell? ⟨gb525, 0, none⟩ = some (.slice none 0 0) := (blk_cell BK525.out 0).trans rfl
                  have hfz91_0 := blk_frozen BK525.out 0
                  have hnb92 := NB517_491.out
                  have hnc92 := NB491_517.out
                  have hnb93 := NB517_508.out
                  have hnc93 := NB508_517.out
                  have hcz94_0 : w48.cell? ⟨gb517, 0, none⟩ = some (.slice Ao46 x518000_9.length co46) := (blk_cell BK517.out 0).trans rfl
                  have hfz94_0 := blk_frozen BK517.out 0
                  go_wp2_with (first | (go_at_call 13; (with_reducible refine (graftwoodlaw10_same.calls kj9 _ _ t521 _ _ x518000_9 true _ ?side1 ?side2 ?side3 ?side4 A55.out).mono ?_); (case side1 => refine (Kd.V_reads' (e := 34) (base := w.heap.size) (ok := fun k_ => ((some k_ ≠ (v519 : Value).ownBlock ∧ (some k_ ≠ (.slice Ao20 t495.length co20 : Value).ownBlock ∧ (some k_ ≠ (v502 : Value).ownBlock ∧ (k_ ≠ gb491 ∧ (k_ ≠ gb508 ∧ k_ ≠ gb517))))) ∧ k_ ≠ gb525)) (n := t521.length) (c := co49) ?_).2.2; exact (by (with_reducible repeat (first | apply Kd.V_alloc | apply Kd.V_drewN | apply Kd.V_drew)); exact (Kd.V_mono (Kd.V_far (p := ⟨gb525, 0, none⟩) (Kd.V_mono HO523.out (fun k_ hk => (⟨hk, hk.2⟩ : _ ∧ k_ ≠ gb525))) (fun _ hk => hk.2) (.slice Ao49 t521.length co49)) (fun _ h_ => h_.1)))); (case side2 => exact (Kd.V_reads' HO523.out).2.1); (case side3 => refine (Kd.V_reads' (e := 34) (base := w.heap.size) (ok := fun k_ => (((some k_ ≠ (.slice Ao20 t495.length co20 : Value).ownBlock ∧ (some k_ ≠ (v502 : Value).ownBlock ∧ (k_ ≠ gb491 ∧ (k_ ≠ gb508 ∧ k_ ≠ gb517)))) ∧ some k_ ≠ (v519 : Value).ownBlock) ∧ k_ ≠ gb525)) (n := x518000_9.length) (c := co46) ?_).2.2; exact (by (with_reducible repeat (first | apply Kd.V_alloc | apply Kd.V_drewN | apply Kd.V_drew)); exact (Kd.V_mono (Kd.V_far (p := ⟨gb525, 0, none⟩) (Kd.V_mono HO_518000.out (fun k_ hk => (⟨hk, hk.2⟩ : _ ∧ k_ ≠ gb525))) (fun _ hk => hk.2) (.slice Ao49 t521.length co49)) (fun _ h_ => h_.1)))); (case side4 => exact (Kd.V_reads' HO_518000.out).2.1); rintro e w95 ⟨rfl, hb⟩; have n0_ := Aside0.mk (Kd.R_below (by (with_reducible repeat (first | apply Kd.R_alloc | apply Kd.R_drewN | apply Kd.R_drew)); exact (Kd.R_mono (Kd.R_far (p := ⟨gb525, 0, none⟩) (Kd.R_types HO_1.out BK525.out (by decide)) (fun _ hk => hk.2) (.slice Ao49 t521.length co49)) (fun _ h_ => h_.1))) hb); have n1_ := Aside0.mk (Kd.R_below (by (with_reducible repeat (first | apply Kd.R_alloc | apply Kd.R_drewN | apply Kd.R_drew)); exact (Kd.R_mono (Kd.R_far (p := ⟨gb525, 0, none⟩) (Kd.R_types HO_7.out BK525.out (by decide)) (fun _ hk => hk.2) (.slice Ao49 t521.length co49)) (fun _ h_ => h_.1))) hb); have n2_ := Aside0.mk (Kd.R_below (by (with_reducible repeat (first | apply Kd.R_alloc | apply Kd.R_drewN | apply Kd.R_drew)); exact (Kd.R_mono (Kd.R_far (p := ⟨gb525, 0, none⟩) (Kd.R_types HO_492000.out BK525.out (by decide)) (fun _ hk => hk.2) (.slice Ao49 t521.length co49)) (fun _ h_ => h_.1))) hb); have n3_ := Aside0.mk (Kd.V_below (by (with_reducible repeat (first | apply Kd.V_alloc | apply Kd.V_drewN | apply Kd.V_drew)); exact (Kd.V_mono (Kd.V_far (p := ⟨gb525, 0, none⟩) (Kd.V_mono HO_509000.out (fun k_ hk => (⟨hk, hk.2⟩ : _ ∧ k_ ≠ gb525))) (fun _ hk => hk.2) (.slice Ao49 t521.length co49)) (fun _ h_ => h_.1))) hb); have n4_ := Aside0.mk (Kd.V_below (by (with_reducible repeat (first | apply Kd.V_alloc | apply Kd.V_drewN | apply Kd.V_drew)); exact (Kd.V_mono (Kd.V_far (p := ⟨gb525, 0, none⟩) (Kd.V_mono HO_518000.out (fun k_ hk => (⟨hk, hk.2⟩ : _ ∧ k_ ≠ gb525))) (fun _ hk => hk.2) (.slice Ao49 t521.length co49)) (fun _ h_ => h_.1))) hb); have n5_ := Aside0.mk (Kd.R_below (by (with_reducible repeat (first | apply Kd.R_alloc | apply Kd.R_drewN | apply Kd.R_drew)); exact (Kd.R_mono (Kd.R_far (p := ⟨gb525, 0, none⟩) (Kd.R_types HO520.out BK525.out (by decide)) (fun _ hk => hk.2) (.slice Ao49 t521.length co49)) (fun _ h_ => h_.1))) hb); have n6_ := Aside0.mk (Kd.V_below (by (with_reducible repeat (first | apply Kd.V_alloc | apply Kd.V_drewN | apply Kd.V_drew)); exact (Kd.V_mono (Kd.V_far (p := ⟨gb525, 0, none⟩) (Kd.V_mono HO523.out (fun k_ hk => (⟨hk, hk.2⟩ : _ ∧ k_ ≠ gb525))) (fun _ hk => hk.2) (.slice Ao49 t521.length co49)) (fun _ h_ => h_.1))) hb); have n7_ := Aside0.mk (blk_below (g := gb491) (o := .cells #[.slice Ao16 t492.length co16] 24 (0, 0)) (by (with_reducible repeat (first | refine blk_drewN ?_ _ | refine blk_drew ?_ | refine blk_alloc ?_ _)); refine blk_far ?_ NB491_525.out _; (with_reducible repeat (first | refine blk_drewN ?_ _ | refine blk_drew ?_ | refine blk_alloc ?_ _)); exact BK491.out) hb); have n8_ := Aside0.mk (blk_below (g := gb508) (o := .cells #[.slice Ao23 t504.length co23] 24 (0, 0)) (by (with_reducible repeat (first | refine blk_drewN ?_ _ | refine blk_drew ?_ | refine blk_alloc ?_ _)); refine blk_far ?_ NB508_525.out _; (with_reducible repeat (first | refine blk_drewN ?_ _ | refine blk_drew ?_ | refine blk_alloc ?_ _)); exact BK508.out) hb); have n9_ := Aside0.mk (blk_below (g := gb517) (o := .cells #[.slice Ao46 x518000_9.length co46] 24 (0, 0)) (by (with_reducible repeat (first | refine blk_drewN ?_ _ | refine blk_drew ?_ | refine blk_alloc ?_ _)); refine blk_far ?_ NB517_525.out _; (with_reducible repeat (first | refine blk_drewN ?_ _ | refine blk_drew ?_ | refine blk_alloc ?_ _)); exact BK517.out) hb); have n10_ := Aside0.mk (blk_below (g := gb525) (o := .cells #[.slice Ao49 t521.length co49] 24 (0, 0)) (by (with_reducible repeat (first | refine blk_drewN ?_ _ | refine blk_drew ?_ | refine blk_alloc ?_ _)); refine blk_put (cs := #[.slice none 0 0]) ?_ 0 _ rfl; (with_reducible repeat (first | refine blk_drewN ?_ _ | refine blk_drew ?_ | refine blk_alloc ?_ _)); exact BK525.out) hb); have n11_ := Aside0.mk (below_step (by repeat (first | (with_reducible first | exact HB.out | apply below_alloc | apply pw_below_drewN | apply below_drew1 | refine below_set ?_ GE491.out | refine below_set ?_ GE508.out | refine below_set ?_ GE517.out | refine below_set ?_ GE525.out) | exact HB.out)) hb); clear HO_1; clear HO_7; clear HO_492000; clear HO_509000; clear HO_518000; clear HO520; clear HO523; clear BK491; clear BK508; clear BK517; clear BK525; clear HB; have HO_1 := n0_; have HO_7 := n1_; have HO_492000 := n2_; have HO_509000 := n3_; have HO_518000 := n4_; have HO520 := n5_; have HO523 := n6_; have BK491 := n7_; have BK508 := n8_; have BK517 := n9_; have BK525 := n10_; have HB := n11_; clear n0_ n1_ n2_ n3_ n4_ n5_ n6_ n7_ n8_ n9_ n10_ n11_; (try clear hb); (try clear hb2); (try clear hk); (try clear hi); obtain ⟨Ao96, co96, eo96⟩ := Kd.R_slice HO_7.out; subst eo96; obtain ⟨Ao97, co97, eo97⟩ := Kd.R_slice HO520.out; subst eo97))
                  go_meet
                  case rel => exact ⟨_, (true), (by first | rfl | (simp; done) | (simp [*]; done)), H', ⟨by have := HJ9.out; first | omega | exact Nat.le_refl _⟩, ⟨by (with_reducible repeat (first | apply Kd.R_alloc | apply Kd.R_drewN | apply Kd.R_drew)); exact HO_1.out⟩, ⟨by (with_reducible repeat (first | apply Kd.R_alloc | apply Kd.R_drewN | apply Kd.R_drew)); exact Kd.R_mono HO_7.out (fun _ hk => hk.2)⟩, ⟨by (with_reducible repeat (first | apply Kd.R_alloc | apply Kd.R_drewN | apply Kd.R_drew)); exact Kd.R_mono HO520.out (fun _ hk => hk.2)⟩, ⟨by (with_reducible repeat (first | apply Kd.R_alloc | apply Kd.R_drewN | apply Kd.R_drew)); exact HO_492000.out⟩, ⟨by (with_reducible repeat (first | apply Kd.V_alloc | apply Kd.V_drewN | apply Kd.V_drew)); exact Kd.V_mono HO_509000.out (fun _ hk => ⟨hk.1.1.1, ⟨hk.1.1.2.1, ⟨hk.1.2, ⟨hk.1.1.2.2.1, ⟨hk.1.1.2.2.2.1, ⟨hk.1.1.2.2.2.2, hk.2⟩⟩⟩⟩⟩⟩)⟩, ⟨by (with_reducible repeat (first | apply Kd.V_alloc | apply Kd.V_drewN | apply Kd.V_drew)); exact Kd.V_mono HO_518000.out (fun _ hk => ⟨hk.1.1.1, ⟨hk.1.1.2.1, ⟨hk.1.2, ⟨hk.1.1.2.2.1, ⟨hk.1.1.2.2.2.1, ⟨hk.1.1.2.2.2.2, hk.2⟩⟩⟩⟩⟩⟩)⟩, ⟨by (with_reducible repeat (first | apply Kd.V_alloc | apply Kd.V_drewN | apply Kd.V_drew)); exact Kd.V_mono HO523.out (fun _ hk => ⟨hk.1.2.1, ⟨hk.1.2.2.1, ⟨hk.1.1, ⟨hk.1.2.2.2.1, ⟨hk.1.2.2.2.2.1, ⟨hk.1.2.2.2.2.2, hk.2⟩⟩⟩⟩⟩⟩)⟩, ⟨by (with_reducible repeat (first | refine blk_drewN ?_ _ | refine blk_drew ?_ | refine blk_alloc ?_ _)); exact BK491.out⟩, ⟨by (with_reducible repeat (first | refine blk_drewN ?_ _ | refine blk_drew ?_ | refine blk_alloc ?_ _)); exact BK508.out⟩, ⟨by (with_reducible repeat (first | refine blk_drewN ?_ _ | refine blk_drew ?_ | refine blk_alloc ?_ _)); exact BK517.out⟩, ⟨by (with_reducible repeat (first | refine blk_drewN ?_ _ | refine blk_drew ?_ | refine blk_alloc ?_ _)); exact BK525.out⟩, ⟨by repeat (first | (with_reducible first | exact HB.out | apply below_alloc | apply pw_below_drewN | apply below_drew1 | refine below_set ?_ GE491.out | refine below_set ?_ GE508.out | refine below_set ?_ GE517.out | refine below_set ?_ GE525.out) | exact HB.out)⟩⟩
              · rw [if_neg c57] at H
                have c57b0 : ((t501.length : Int) == (t518.length : Int)) = false := beq_eq_false_iff_ne.mpr c57
                have c57b1 : ((t501.length : Int) != (t518.length : Int)) = true := bne_iff_ne.mpr c57
                have c57b2 : (t501.length == t518.length) = false := by first | simpa using c57 | (simp at c57 ⊢; omega)
                have H' := Aside0.mk H
                clear H
                have hnb98 := NB525_491.out
                have hnc98 := NB491_525.out
                have hnb99 := NB525_508.out
                have hnc99 := NB508_525.out
                have hnb100 := NB525_517.out
                have hnc100 := NB517_525.out
                have hcz101_0 : w48.cell? ⟨gb525, 0, none⟩ = some (.slice none 0 0) := (blk_cell BK525.out 0).trans rfl
                have hfz101_0 := blk_frozen BK525.out 0
                have hnb102 := NB517_491.out
                have hnc102 := NB491_517.out
                have hnb103 := NB517_508.out
                have hnc103 := NB508_517.out
                have hcz104_0 : w48.cell? ⟨gb517, 0, none⟩ = some (.slice Ao46 x518000_9.length co46) := (blk_cell BK517.out 0).trans rfl
                have hfz104_0 := blk_frozen BK517.out 0
                go_wp2_with (first | (go_at_call 13; (with_reducible refine (graftwoodlaw10_same.calls kj9 _ _ t521 _ _ x518000_9 true _ ?side1 ?side2 ?side3 ?side4 A55.out).mono ?_); (case side1 => refine (Kd.V_reads' (e := 34) (base := w.heap.size) (ok := fun k_ => ((some k_ ≠ (v519 : Value).ownBlock ∧ (some k_ ≠ (.slice Ao20 t495.length co20 : Value).ownBlock ∧ (some k_ ≠ (v502 : Value).ownBlock ∧ (k_ ≠ gb491 ∧ (k_ ≠ gb508 ∧ k_ ≠ gb517))))) ∧ k_ ≠ gb525)) (n := t521.length) (c := co49) ?_).2.2; exact (by (with_reducible repeat (first | apply Kd.V_alloc | apply Kd.V_drewN | apply Kd.V_drew)); exact (Kd.V_mono (Kd.V_far (p := ⟨gb525, 0, none⟩) (Kd.V_mono HO523.out (fun k_ hk => (⟨hk, hk.2⟩ : _ ∧ k_ ≠ gb525))) (fun _ hk => hk.2) (.slice Ao49 t521.length co49)) (fun _ h_ => h_.1)))); (case side2 => exact (Kd.V_reads' HO523.out).2.1); (case side3 => refine (Kd.V_reads' (e := 34) (base := w.heap.size) (ok := fun k_ => (((some k_ ≠ (.slice Ao20 t495.length co20 : Value).ownBlock ∧ (some k_ ≠ (v502 : Value).ownBlock ∧ (k_ ≠ gb491 ∧ (k_ ≠ gb508 ∧ k_ ≠ gb517)))) ∧ some k_ ≠ (v519 : Value).ownBlock) ∧ k_ ≠ gb525)) (n := x518000_9.length) (c := co46) ?_).2.2; exact (by (with_reducible repeat (first | apply Kd.V_alloc | apply Kd.V_drewN | apply Kd.V_drew)); exact (Kd.V_mono (Kd.V_far (p := ⟨gb525, 0, none⟩) (Kd.V_mono HO_518000.out (fun k_ hk => (⟨hk, hk.2⟩ : _ ∧ k_ ≠ gb525))) (fun _ hk => hk.2) (.slice Ao49 t521.length co49)) (fun _ h_ => h_.1)))); (case side4 => exact (Kd.V_reads' HO_518000.out).2.1); rintro e w105 ⟨rfl, hb⟩; have n0_ := Aside0.mk (Kd.R_below (by (with_reducible repeat (first | apply Kd.R_alloc | apply Kd.R_drewN | apply Kd.R_drew)); exact (Kd.R_mono (Kd.R_far (p := ⟨gb525, 0, none⟩) (Kd.R_types HO_1.out BK525.out (by decide)) (fun _ hk => hk.2) (.slice Ao49 t521.length co49)) (fun _ h_ => h_.1))) hb); have n1_ := Aside0.mk (Kd.R_below (by (with_reducible repeat (first | apply Kd.R_alloc | apply Kd.R_drewN | apply Kd.R_drew)); exact (Kd.R_mono (Kd.R_far (p := ⟨gb525, 0, none⟩) (Kd.R_types HO_7.out BK525.out (by decide)) (fun _ hk => hk.2) (.slice Ao49 t521.length co49)) (fun _ h_ => h_.1))) hb); have n2_ := Aside0.mk (Kd.R_below (by (with_reducible repeat (first | apply Kd.R_alloc | apply Kd.R_drewN | apply Kd.R_drew)); exact (Kd.R_mono (Kd.R_far (p := ⟨gb525, 0, none⟩) (Kd.R_types HO_492000.out BK525.out (by decide)) (fun _ hk => hk.2) (.slice Ao49 t521.length co49)) (fun _ h_ => h_.1))) hb); have n3_ := Aside0.mk (Kd.V_below (by (with_reducible repeat (first | apply Kd.V_alloc | apply Kd.V_drewN | apply Kd.V_drew)); exact (Kd.V_mono (Kd.V_far (p := ⟨gb525, 0, none⟩) (Kd.V_mono HO_509000.out (fun k_ hk => (⟨hk, hk.2⟩ : _ ∧ k_ ≠ gb525))) (fun _ hk => hk.2) (.slice Ao49 t521.length co49)) (fun _ h_ => h_.1))) hb); have n4_ := Aside0.mk (Kd.V_below (by (with_reducible repeat (first | apply Kd.V_alloc | apply Kd.V_drewN | apply Kd.V_drew)); exact (Kd.V_mono (Kd.V_far (p := ⟨gb525, 0, none⟩) (Kd.V_mono HO_518000.out (fun k_ hk => (⟨hk, hk.2⟩ : _ ∧ k_ ≠ gb525))) (fun _ hk => hk.2) (.slice Ao49 t521.length co49)) (fun _ h_ => h_.1))) hb); have n5_ := Aside0.mk (Kd.R_below (by (with_reducible repeat (first | apply Kd.R_alloc | apply Kd.R_drewN | apply Kd.R_drew)); exact (Kd.R_mono (Kd.R_far (p := ⟨gb525, 0, none⟩) (Kd.R_types HO520.out BK525.out (by decide)) (fun _ hk => hk.2) (.slice Ao49 t521.length co49)) (fun _ h_ => h_.1))) hb); have n6_ := Aside0.mk (Kd.V_below (by (with_reducible repeat (first | apply Kd.V_alloc | apply Kd.V_drewN | apply Kd.V_drew)); exact (Kd.V_mono (Kd.V_far (p := ⟨gb525, 0, none⟩) (Kd.V_mono HO523.out (fun k_ hk => (⟨hk, hk.2⟩ : _ ∧ k_ ≠ gb525))) (fun _ hk => hk.2) (.slice Ao49 t521.length co49)) (fun _ h_ => h_.1))) hb); have n7_ := Aside0.mk (blk_below (g := gb491) (o := .cells #[.slice Ao16 t492.length co16] 24 (0, 0)) (by (with_reducible repeat (first | refine blk_drewN ?_ _ | refine blk_drew ?_ | refine blk_alloc ?_ _)); refine blk_far ?_ NB491_525.out _; (with_reducible repeat (first | refine blk_drewN ?_ _ | refine blk_drew ?_ | refine blk_alloc ?_ _)); exact BK491.out) hb); have n8_ := Aside0.mk (blk_below (g := gb508) (o := .cells #[.slice Ao23 t504.length co23] 24 (0, 0)) (by (with_reducible repeat (first | refine blk_drewN ?_ _ | refine blk_drew ?_ | refine blk_alloc ?_ _)); refine blk_far ?_ NB508_525.out _; (with_reducible repeat (first | refine blk_drewN ?_ _ | refine blk_drew ?_ | refine blk_alloc ?_ _)); exact BK508.out) hb); have n9_ := Aside0.mk (blk_below (g := gb517) (o := .cells #[.slice Ao46 x518000_9.length co46] 24 (0, 0)) (by (with_reducible repeat (first | refine blk_drewN ?_ _ | refine blk_drew ?_ | refine blk_alloc ?_ _)); refine blk_far ?_ NB517_525.out _; (with_reducible repeat (first | refine blk_drewN ?_ _ | refine blk_drew ?_ | refine blk_alloc ?_ _)); exact BK517.out) hb); have n10_ := Aside0.mk (blk_below (g := gb525) (o := .cells #[.slice Ao49 t521.length co49] 24 (0, 0)) (by (with_reducible repeat (first | refine blk_drewN ?_ _ | refine blk_drew ?_ | refine blk_alloc ?_ _)); refine blk_put (cs := #[.slice none 0 0]) ?_ 0 _ rfl; (with_reducible repeat (first | refine blk_drewN ?_ _ | refine blk_drew ?_ | refine blk_alloc ?_ _)); exact BK525.out) hb); have n11_ := Aside0.mk (below_step (by repeat (first | (with_reducible first | exact HB.out | apply below_alloc | apply pw_below_drewN | apply below_drew1 | refine below_set ?_ GE491.out | refine below_set ?_ GE508.out | refine below_set ?_ GE517.out | refine below_set ?_ GE525.out) | exact HB.out)) hb); clear HO_1; clear HO_7; clear HO_492000; clear HO_509000; clear HO_518000; clear HO520; clear HO523; clear BK491; clear BK508; clear BK517; clear BK525; clear HB; have HO_1 := n0_; have HO_7 := n1_; have HO_492000 := n2_; have HO_509000 := n3_; have HO_518000 := n4_; have HO520 := n5_; have HO523 := n6_; have BK491 := n7_; have BK508 := n8_; have BK517 := n9_; have BK525 := n10_; have HB := n11_; clear n0_ n1_ n2_ n3_ n4_ n5_ n6_ n7_ n8_ n9_ n10_ n11_; (try clear hb); (try clear hb2); (try clear hk); (try clear hi); obtain ⟨Ao106, co106, eo106⟩ := Kd.R_slice HO_7.out; subst eo106; obtain ⟨Ao107, co107, eo107⟩ := Kd.R_slice HO520.out; subst eo107))
                go_meet
                case rel => exact ⟨_, (true), (by first | rfl | (simp; done) | (simp [*]; done)), H', ⟨by have := HJ9.out; first | omega | exact Nat.le_refl _⟩, ⟨by (with_reducible repeat (first | apply Kd.R_alloc | apply Kd.R_drewN | apply Kd.R_drew)); exact HO_1.out⟩, ⟨by (with_reducible repeat (first | apply Kd.R_alloc | apply Kd.R_drewN | apply Kd.R_drew)); exact Kd.R_mono HO_7.out (fun _ hk => hk.2)⟩, ⟨by (with_reducible repeat (first | apply Kd.R_alloc | apply Kd.R_drewN | apply Kd.R_drew)); exact Kd.R_mono HO520.out (fun _ hk => hk.2)⟩, ⟨by (with_reducible repeat (first | apply Kd.R_alloc | apply Kd.R_drewN | apply Kd.R_drew)); exact HO_492000.out⟩, ⟨by (with_reducible repeat (first | apply Kd.V_alloc | apply Kd.V_drewN | apply Kd.V_drew)); exact Kd.V_mono HO_509000.out (fun _ hk => ⟨hk.1.1.1, ⟨hk.1.1.2.1, ⟨hk.1.2, ⟨hk.1.1.2.2.1, ⟨hk.1.1.2.2.2.1, ⟨hk.1.1.2.2.2.2, hk.2⟩⟩⟩⟩⟩⟩)⟩, ⟨by (with_reducible repeat (first | apply Kd.V_alloc | apply Kd.V_drewN | apply Kd.V_drew)); exact Kd.V_mono HO_518000.out (fun _ hk => ⟨hk.1.1.1, ⟨hk.1.1.2.1, ⟨hk.1.2, ⟨hk.1.1.2.2.1, ⟨hk.1.1.2.2.2.1, ⟨hk.1.1.2.2.2.2, hk.2⟩⟩⟩⟩⟩⟩)⟩, ⟨by (with_reducible repeat (first | apply Kd.V_alloc | apply Kd.V_drewN | apply Kd.V_drew)); exact Kd.V_mono HO523.out (fun _ hk => ⟨hk.1.2.1, ⟨hk.1.2.2.1, ⟨hk.1.1, ⟨hk.1.2.2.2.1, ⟨hk.1.2.2.2.2.1, ⟨hk.1.2.2.2.2.2, hk.2⟩⟩⟩⟩⟩⟩)⟩, ⟨by (with_reducible repeat (first | refine blk_drewN ?_ _ | refine blk_drew ?_ | refine blk_alloc ?_ _)); exact BK491.out⟩, ⟨by (with_reducible repeat (first | refine blk_drewN ?_ _ | refine blk_drew ?_ | refine blk_alloc ?_ _)); exact BK508.out⟩, ⟨by (with_reducible repeat (first | refine blk_drewN ?_ _ | refine blk_drew ?_ | refine blk_alloc ?_ _)); exact BK517.out⟩, ⟨by (with_reducible repeat (first | refine blk_drewN ?_ _ | refine blk_drew ?_ | refine blk_alloc ?_ _)); exact BK525.out⟩, ⟨by repeat (first | (with_reducible first | exact HB.out | apply below_alloc | apply pw_below_drewN | apply below_drew1 | refine below_set ?_ GE491.out | refine below_set ?_ GE508.out | refine below_set ?_ GE517.out | refine below_set ?_ GE525.out) | exact HB.out)⟩⟩
            · replace c56 := Bool.eq_false_iff.mpr c56
              subst c56
              have H1 : (graftwoodlaw10_InternStays.j1 kj9 t495 t501 t518 true x518000_9) = some r := by rw [if_neg (show ¬ (false = true) by decide)] at H; exact H
              clear H
              have H := H1
              clear H1
              have H' := Aside0.mk H
              clear H
              have hnb108 := NB525_491.out
              have hnc108 := NB491_525.out
              have hnb109 := NB525_508.out
              have hnc109 := NB508_525.out
              have hnb110 := NB525_517.out
              have hnc110 := NB517_525.out
              have hcz111_0 : w48.cell? ⟨gb525, 0, none⟩ = some (.slice none 0 0) := (blk_cell BK525.out 0).trans rfl
              have hfz111_0 := blk_frozen BK525.out 0
              have hnb112 := NB517_491.out
              have hnc112 := NB491_517.out
              have hnb113 := NB517_508.out
              have hnc113 := NB508_517.out
              have hcz114_0 : w48.cell? ⟨gb517, 0, none⟩ = some (.slice Ao46 x518000_9.length co46) := (blk_cell BK517.out 0).trans rfl
              have hfz114_0 := blk_frozen BK517.out 0
              go_wp2_with (first | (go_at_call 13; (with_reducible refine (graftwoodlaw10_same.calls kj9 _ _ t521 _ _ x518000_9 false _ ?side1 ?side2 ?side3 ?side4 A55.out).mono ?_); (case side1 => refine (Kd.V_reads' (e := 34) (base := w.heap.size) (ok := fun k_ => ((some k_ ≠ (v519 : Value).ownBlock ∧ (some k_ ≠ (.slice Ao20 t495.length co20 : Value).ownBlock ∧ (some k_ ≠ (v502 : Value).ownBlock ∧ (k_ ≠ gb491 ∧ (k_ ≠ gb508 ∧ k_ ≠ gb517))))) ∧ k_ ≠ gb525)) (n := t521.length) (c := co49) ?_).2.2; exact (by (with_reducible repeat (first | apply Kd.V_alloc | apply Kd.V_drewN | apply Kd.V_drew)); exact (Kd.V_mono (Kd.V_far (p := ⟨gb525, 0, none⟩) (Kd.V_mono HO523.out (fun k_ hk => (⟨hk, hk.2⟩ : _ ∧ k_ ≠ gb525))) (fun _ hk => hk.2) (.slice Ao49 t521.length co49)) (fun _ h_ => h_.1)))); (case side2 => exact (Kd.V_reads' HO523.out).2.1); (case side3 => refine (Kd.V_reads' (e := 34) (base := w.heap.size) (ok := fun k_ => (((some k_ ≠ (.slice Ao20 t495.length co20 : Value).ownBlock ∧ (some k_ ≠ (v502 : Value).ownBlock ∧ (k_ ≠ gb491 ∧ (k_ ≠ gb508 ∧ k_ ≠ gb517)))) ∧ some k_ ≠ (v519 : Value).ownBlock) ∧ k_ ≠ gb525)) (n := x518000_9.length) (c := co46) ?_).2.2; exact (by (with_reducible repeat (first | apply Kd.V_alloc | apply Kd.V_drewN | apply Kd.V_drew)); exact (Kd.V_mono (Kd.V_far (p := ⟨gb525, 0, none⟩) (Kd.V_mono HO_518000.out (fun k_ hk => (⟨hk, hk.2⟩ : _ ∧ k_ ≠ gb525))) (fun _ hk => hk.2) (.slice Ao49 t521.length co49)) (fun _ h_ => h_.1)))); (case side4 => exact (Kd.V_reads' HO_518000.out).2.1); rintro e w115 ⟨rfl, hb⟩; have n0_ := Aside0.mk (Kd.R_below (by (with_reducible repeat (first | apply Kd.R_alloc | apply Kd.R_drewN | apply Kd.R_drew)); exact (Kd.R_mono (Kd.R_far (p := ⟨gb525, 0, none⟩) (Kd.R_types HO_1.out BK525.out (by decide)) (fun _ hk => hk.2) (.slice Ao49 t521.length co49)) (fun _ h_ => h_.1))) hb); have n1_ := Aside0.mk (Kd.R_below (by (with_reducible repeat (first | apply Kd.R_alloc | apply Kd.R_drewN | apply Kd.R_drew)); exact (Kd.R_mono (Kd.R_far (p := ⟨gb525, 0, none⟩) (Kd.R_types HO_7.out BK525.out (by decide)) (fun _ hk => hk.2) (.slice Ao49 t521.length co49)) (fun _ h_ => h_.1))) hb); have n2_ := Aside0.mk (Kd.R_below (by (with_reducible repeat (first | apply Kd.R_alloc | apply Kd.R_drewN | apply Kd.R_drew)); exact (Kd.R_mono (Kd.R_far (p := ⟨gb525, 0, none⟩) (Kd.R_types HO_492000.out BK525.out (by decide)) (fun _ hk => hk.2) (.slice Ao49 t521.length co49)) (fun _ h_ => h_.1))) hb); have n3_ := Aside0.mk (Kd.V_below (by (with_reducible repeat (first | apply Kd.V_alloc | apply Kd.V_drewN | apply Kd.V_drew)); exact (Kd.V_mono (Kd.V_far (p := ⟨gb525, 0, none⟩) (Kd.V_mono HO_509000.out (fun k_ hk => (⟨hk, hk.2⟩ : _ ∧ k_ ≠ gb525))) (fun _ hk => hk.2) (.slice Ao49 t521.length co49)) (fun _ h_ => h_.1))) hb); have n4_ := Aside0.mk (Kd.V_below (by (with_reducible repeat (first | apply Kd.V_alloc | apply Kd.V_drewN | apply Kd.V_drew)); exact (Kd.V_mono (Kd.V_far (p := ⟨gb525, 0, none⟩) (Kd.V_mono HO_518000.out (fun k_ hk => (⟨hk, hk.2⟩ : _ ∧ k_ ≠ gb525))) (fun _ hk => hk.2) (.slice Ao49 t521.length co49)) (fun _ h_ => h_.1))) hb); have n5_ := Aside0.mk (Kd.R_below (by (with_reducible repeat (first | apply Kd.R_alloc | apply Kd.R_drewN | apply Kd.R_drew)); exact (Kd.R_mono (Kd.R_far (p := ⟨gb525, 0, none⟩) (Kd.R_types HO520.out BK525.out (by decide)) (fun _ hk => hk.2) (.slice Ao49 t521.length co49)) (fun _ h_ => h_.1))) hb); have n6_ := Aside0.mk (Kd.V_below (by (with_reducible repeat (first | apply Kd.V_alloc | apply Kd.V_drewN | apply Kd.V_drew)); exact (Kd.V_mono (Kd.V_far (p := ⟨gb525, 0, none⟩) (Kd.V_mono HO523.out (fun k_ hk => (⟨hk, hk.2⟩ : _ ∧ k_ ≠ gb525))) (fun _ hk => hk.2) (.slice Ao49 t521.length co49)) (fun _ h_ => h_.1))) hb); have n7_ := Aside0.mk (blk_below (g := gb491) (o := .cells #[.slice Ao16 t492.length co16] 24 (0, 0)) (by (with_reducible repeat (first | refine blk_drewN ?_ _ | refine blk_drew ?_ | refine blk_alloc ?_ _)); refine blk_far ?_ NB491_525.out _; (with_reducible repeat (first | refine blk_drewN ?_ _ | refine blk_drew ?_ | refine blk_alloc ?_ _)); exact BK491.out) hb); have n8_ := Aside0.mk (blk_below (g := gb508) (o := .cells #[.slice Ao23 t504.length co23] 24 (0, 0)) (by (with_reducible repeat (first | refine blk_drewN ?_ _ | refine blk_drew ?_ | refine blk_alloc ?_ _)); refine blk_far ?_ NB508_525.out _; (with_reducible repeat (first | refine blk_drewN ?_ _ | refine blk_drew ?_ | refine blk_alloc ?_ _)); exact BK508.out) hb); have n9_ := Aside0.mk (blk_below (g := gb517) (o := .cells #[.slice Ao46 x518000_9.length co46] 24 (0, 0)) (by (with_reducible repeat (first | refine blk_drewN ?_ _ | refine blk_drew ?_ | refine blk_alloc ?_ _)); refine blk_far ?_ NB517_525.out _; (with_reducible repeat (first | refine blk_drewN ?_ _ | refine blk_drew ?_ | refine blk_alloc ?_ _)); exact BK517.out) hb); have n10_ := Aside0.mk (blk_below (g := gb525) (o := .cells #[.slice Ao49 t521.length co49] 24 (0, 0)) (by (with_reducible repeat (first | refine blk_drewN ?_ _ | refine blk_drew ?_ | refine blk_alloc ?_ _)); refine blk_put (cs := #[.slice none 0 0]) ?_ 0 _ rfl; (with_reducible repeat (first | refine blk_drewN ?_ _ | refine blk_drew ?_ | refine blk_alloc ?_ _)); exact BK525.out) hb); have n11_ := Aside0.mk (below_step (by repeat (first | (with_reducible first | exact HB.out | apply below_alloc | apply pw_below_drewN | apply below_drew1 | refine below_set ?_ GE491.out | refine below_set ?_ GE508.out | refine below_set ?_ GE517.out | refine below_set ?_ GE525.out) | exact HB.out)) hb); clear HO_1; clear HO_7; clear HO_492000; clear HO_509000; clear HO_518000; clear HO520; clear HO523; clear BK491; clear BK508; clear BK517; clear BK525; clear HB; have HO_1 := n0_; have HO_7 := n1_; have HO_492000 := n2_; have HO_509000 := n3_; have HO_518000 := n4_; have HO520 := n5_; have HO523 := n6_; have BK491 := n7_; have BK508 := n8_; have BK517 := n9_; have BK525 := n10_; have HB := n11_; clear n0_ n1_ n2_ n3_ n4_ n5_ n6_ n7_ n8_ n9_ n10_ n11_; (try clear hb); (try clear hb2); (try clear hk); (try clear hi)))
              go_meet
              case rel => exact ⟨_, (true), (by first | rfl | (simp; done) | (simp [*]; done)), H', ⟨by have := HJ9.out; first | omega | exact Nat.le_refl _⟩, ⟨by (with_reducible repeat (first | apply Kd.R_alloc | apply Kd.R_drewN | apply Kd.R_drew)); exact HO_1.out⟩, ⟨by (with_reducible repeat (first | apply Kd.R_alloc | apply Kd.R_drewN | apply Kd.R_drew)); exact Kd.R_mono HO_7.out (fun _ hk => hk.2)⟩, ⟨by (with_reducible repeat (first | apply Kd.R_alloc | apply Kd.R_drewN | apply Kd.R_drew)); exact Kd.R_mono HO520.out (fun _ hk => hk.2)⟩, ⟨by (with_reducible repeat (first | apply Kd.R_alloc | apply Kd.R_drewN | apply Kd.R_drew)); exact HO_492000.out⟩, ⟨by (with_reducible repeat (first | apply Kd.V_alloc | apply Kd.V_drewN | apply Kd.V_drew)); exact Kd.V_mono HO_509000.out (fun _ hk => ⟨hk.1.1.1, ⟨hk.1.1.2.1, ⟨hk.1.2, ⟨hk.1.1.2.2.1, ⟨hk.1.1.2.2.2.1, ⟨hk.1.1.2.2.2.2, hk.2⟩⟩⟩⟩⟩⟩)⟩, ⟨by (with_reducible repeat (first | apply Kd.V_alloc | apply Kd.V_drewN | apply Kd.V_drew)); exact Kd.V_mono HO_518000.out (fun _ hk => ⟨hk.1.1.1, ⟨hk.1.1.2.1, ⟨hk.1.2, ⟨hk.1.1.2.2.1, ⟨hk.1.1.2.2.2.1, ⟨hk.1.1.2.2.2.2, hk.2⟩⟩⟩⟩⟩⟩)⟩, ⟨by (with_reducible repeat (first | apply Kd.V_alloc | apply Kd.V_drewN | apply Kd.V_drew)); exact Kd.V_mono HO523.out (fun _ hk => ⟨hk.1.2.1, ⟨hk.1.2.2.1, ⟨hk.1.1, ⟨hk.1.2.2.2.1, ⟨hk.1.2.2.2.2.1, ⟨hk.1.2.2.2.2.2, hk.2⟩⟩⟩⟩⟩⟩)⟩, ⟨by (with_reducible repeat (first | refine blk_drewN ?_ _ | refine blk_drew ?_ | refine blk_alloc ?_ _)); exact BK491.out⟩, ⟨by (with_reducible repeat (first | refine blk_drewN ?_ _ | refine blk_drew ?_ | refine blk_alloc ?_ _)); exact BK508.out⟩, ⟨by (with_reducible repeat (first | refine blk_drewN ?_ _ | refine blk_drew ?_ | refine blk_alloc ?_ _)); exact BK517.out⟩, ⟨by (with_reducible repeat (first | refine blk_drewN ?_ _ | refine blk_drew ?_ | refine blk_alloc ?_ _)); exact BK525.out⟩, ⟨by repeat (first | (with_reducible first | exact HB.out | apply below_alloc | apply pw_below_drewN | apply below_drew1 | refine below_set ?_ GE491.out | refine below_set ?_ GE508.out | refine below_set ?_ GE517.out | refine below_set ?_ GE525.out) | exact HB.out)⟩⟩
          · rw [if_neg c54] at H
            have c54b0 : (t524 == 0) = false := beq_eq_false_iff_ne.mpr c54
            have c54b1 : (t524 != 0) = true := bne_iff_ne.mpr c54
            (first | rw [c54b0] | (simp only [i64_w, i32_w]; rw [c54b0]) | skip)
            have H' := Aside0.mk H
            clear H
            go_wp2
            go_meet
            case rel => exact ⟨_, (true), (by first | rfl | (simp; done) | (simp [*]; done)), H', ⟨by have := HJ9.out; first | omega | exact Nat.le_refl _⟩, ⟨by (with_reducible repeat (first | apply Kd.R_alloc | apply Kd.R_drewN | apply Kd.R_drew)); exact Kd.R_mono (Kd.R_far (p := ⟨gb525, 0, none⟩) (Kd.R_types HO_1.out BK525.out (by decide)) (fun _ hk => hk.2) (.slice Ao49 t521.length co49)) (fun _ hk => hk.1)⟩, ⟨by (with_reducible repeat (first | apply Kd.R_alloc | apply Kd.R_drewN | apply Kd.R_drew)); exact Kd.R_mono (Kd.R_far (p := ⟨gb525, 0, none⟩) (Kd.R_types HO_7.out BK525.out (by decide)) (fun _ hk => hk.2) (.slice Ao49 t521.length co49)) (fun _ hk => hk.1.2)⟩, ⟨by (with_reducible repeat (first | apply Kd.R_alloc | apply Kd.R_drewN | apply Kd.R_drew)); exact Kd.R_mono (Kd.R_far (p := ⟨gb525, 0, none⟩) (Kd.R_types HO520.out BK525.out (by decide)) (fun _ hk => hk.2) (.slice Ao49 t521.length co49)) (fun _ hk => hk.1.2)⟩, ⟨by (with_reducible repeat (first | apply Kd.R_alloc | apply Kd.R_drewN | apply Kd.R_drew)); exact Kd.R_mono (Kd.R_far (p := ⟨gb525, 0, none⟩) (Kd.R_types HO_492000.out BK525.out (by decide)) (fun _ hk => hk.2) (.slice Ao49 t521.length co49)) (fun _ hk => hk.1)⟩, ⟨by (with_reducible repeat (first | apply Kd.V_alloc | apply Kd.V_drewN | apply Kd.V_drew)); exact Kd.V_mono (Kd.V_far (p := ⟨gb525, 0, none⟩) (Kd.V_mono HO_509000.out (fun k_ hk => (⟨hk, hk.2⟩ : _ ∧ k_ ≠ gb525))) (fun _ hk => hk.2) (.slice Ao49 t521.length co49)) (fun _ hk => ⟨hk.1.1.1.1, ⟨hk.1.1.1.2.1, ⟨hk.1.1.2, ⟨hk.1.1.1.2.2.1, ⟨hk.1.1.1.2.2.2.1, ⟨hk.1.1.1.2.2.2.2, hk.1.2⟩⟩⟩⟩⟩⟩)⟩, ⟨by (with_reducible repeat (first | apply Kd.V_alloc | apply Kd.V_drewN | apply Kd.V_drew)); exact Kd.V_mono (Kd.V_far (p := ⟨gb525, 0, none⟩) (Kd.V_mono HO_518000.out (fun k_ hk => (⟨hk, hk.2⟩ : _ ∧ k_ ≠ gb525))) (fun _ hk => hk.2) (.slice Ao49 t521.length co49)) (fun _ hk => ⟨hk.1.1.1.1, ⟨hk.1.1.1.2.1, ⟨hk.1.1.2, ⟨hk.1.1.1.2.2.1, ⟨hk.1.1.1.2.2.2.1, ⟨hk.1.1.1.2.2.2.2, hk.1.2⟩⟩⟩⟩⟩⟩)⟩, ⟨by (with_reducible repeat (first | apply Kd.V_alloc | apply Kd.V_drewN | apply Kd.V_drew)); exact Kd.V_mono (Kd.V_far (p := ⟨gb525, 0, none⟩) (Kd.V_mono HO523.out (fun k_ hk => (⟨hk, hk.2⟩ : _ ∧ k_ ≠ gb525))) (fun _ hk => hk.2) (.slice Ao49 t521.length co49)) (fun _ hk => ⟨hk.1.1.2.1, ⟨hk.1.1.2.2.1, ⟨hk.1.1.1, ⟨hk.1.1.2.2.2.1, ⟨hk.1.1.2.2.2.2.1, ⟨hk.1.1.2.2.2.2.2, hk.1.2⟩⟩⟩⟩⟩⟩)⟩, ⟨by (with_reducible repeat (first | refine blk_drewN ?_ _ | refine blk_drew ?_ | refine blk_alloc ?_ _)); refine blk_far ?_ NB491_525.out _; (with_reducible repeat (first | refine blk_drewN ?_ _ | refine blk_drew ?_ | refine blk_alloc ?_ _)); exact BK491.out⟩, ⟨by (with_reducible repeat (first | refine blk_drewN ?_ _ | refine blk_drew ?_ | refine blk_alloc ?_ _)); refine blk_far ?_ NB508_525.out _; (with_reducible repeat (first | refine blk_drewN ?_ _ | refine blk_drew ?_ | refine blk_alloc ?_ _)); exact BK508.out⟩, ⟨by (with_reducible repeat (first | refine blk_drewN ?_ _ | refine blk_drew ?_ | refine blk_alloc ?_ _)); refine blk_far ?_ NB517_525.out _; (with_reducible repeat (first | refine blk_drewN ?_ _ | refine blk_drew ?_ | refine blk_alloc ?_ _)); exact BK517.out⟩, ⟨by (with_reducible repeat (first | refine blk_drewN ?_ _ | refine blk_drew ?_ | refine blk_alloc ?_ _)); refine blk_put (cs := #[.slice none 0 0]) ?_ 0 _ rfl; (with_reducible repeat (first | refine blk_drewN ?_ _ | refine blk_drew ?_ | refine blk_alloc ?_ _)); exact BK525.out⟩, ⟨by repeat (first | (with_reducible first | exact HB.out | apply below_alloc | apply pw_below_drewN | apply below_drew1 | refine below_set ?_ GE491.out | refine below_set ?_ GE508.out | refine below_set ?_ GE517.out | refine below_set ?_ GE525.out) | exact HB.out)⟩⟩
        case rest =>
          clear HC42
          try clear c1
          try clear c2
          try clear p2
          try clear c3
          try clear c4
          try clear c5
          try clear c6
          try clear c7
          try clear c8
          try clear c8b0
          try clear c8b1
          try clear c9
          try clear c10
          try clear c11
          try clear c24
          try clear c32
          try clear c33
          try clear c35
          try clear c35b0
          try clear c35b1
          try clear c36
          try clear c37
          try clear c39
          try clear c43
          try clear c44
          try clear c50
          try clear c51
          try clear c52
          try clear c54
          try clear c54b0
          try clear c54b1
          try clear c56
          try clear c57
          try clear c57b0
          try clear c57b1
          try clear c57b2
          try clear c58
          try clear c58b0
          try clear c58b1
          try clear c58b2
          try clear c60
          try clear c60b0
          try clear c60b1
          try clear c61
          try clear c62
          try clear c63
          try clear c65
          try clear c66
          try clear c74
          try clear c76
          try clear c77
          try clear c78
          try clear c80
          try clear c81
          try clear c88
          try clear c89
          try clear c90
          try clear c92
          try clear c93
          try clear c98
          try clear c99
          try clear c100
          try clear c102
          try clear c103
          try clear c108
          try clear c109
          try clear c110
          try clear c112
          try clear c113
          try clear hcz101_0
          try clear hcz104_0
          try clear hcz111_0
          try clear hcz114_0
          try clear hcz12_0
          try clear hcz17_0
          try clear hcz19_0
          try clear hcz25_0
          try clear hcz27_0
          try clear hcz34_0
          try clear hcz38_0
          try clear hcz40_0
          try clear hcz45_0
          try clear hcz53_0
          try clear hcz64_0
          try clear hcz67_0
          try clear hcz71_0
          try clear hcz73_0
          try clear hcz75_0
          try clear hcz79_0
          try clear hcz82_0
          try clear hcz86_0
          try clear hcz91_0
          try clear hcz94_0
          try clear hfz101_0
          try clear hfz104_0
          try clear hfz111_0
          try clear hfz114_0
          try clear hfz12_0
          try clear hfz17_0
          try clear hfz19_0
          try clear hfz25_0
          try clear hfz27_0
          try clear hfz34_0
          try clear hfz38_0
          try clear hfz40_0
          try clear hfz45_0
          try clear hfz53_0
          try clear hfz64_0
          try clear hfz67_0
          try clear hfz71_0
          try clear hfz73_0
          try clear hfz75_0
          try clear hfz79_0
          try clear hfz82_0
          try clear hfz86_0
          try clear hfz91_0
          try clear hfz94_0
          try clear p2
          obtain ⟨kq, x90_41, rfl, HA, HJ41, HO_1, HO_7, HO_13, HO_492000, HO_509000, HO_518000, HO_526000, BK491, BK508, BK517, BK525, HB⟩ := hcut
          cases kq with
          | zero => exact absurd HA.out (by simp [graftwoodlaw10_InternStays.j1])
          | succ kj41 =>
            have H := HA.out
            clear HA
            simp only [graftwoodlaw10_InternStays.j1] at H
            by_cases c116 : x90_41 = true
            · subst c116
              have H1 : (some false) = some r := by rw [if_pos rfl] at H; exact H
              clear H
              have H := H1
              clear H1
              exact absurd ((Option.some.inj H).trans hR_) (by decide)
            · replace c116 := Bool.eq_false_iff.mpr c116
              subst c116
              have H1 : (graftwoodlaw10_InternStays.l0 kj41 t495 t501 t518 0 x518000_9) = some r := by rw [if_neg (show ¬ (false = true) by decide)] at H; exact H
              clear H
              have H := H1
              clear H1
              have H' := Aside0.mk H
              clear H
              go_wp2
              go_loopg [16] kj41 (fun kq v16 w' => ∃ (x16_3 : Int), v16 = .int .i64 x16_3 ∧ Aside0 (graftwoodlaw10_InternStays.l0 kq t495 t501 t518 x16_3 x518000_9 = some r) ∧ Aside0 (kq ≤ kj41) ∧ Aside0 (Kd.R k34 34 w' w.heap.size (fun k_ => some k_ ≠ ((.slice Ao16 t492.length co16) : Value).ownBlock) (.slice Ao20 t495.length co20) t495) ∧ Aside0 (Kd.R (Kd.int .i64) 3 w' w.heap.size (fun k_ => some k_ ≠ (v519 : Value).ownBlock) v502 t501) ∧ Aside0 (Kd.R (Kd.int .i64) 3 w' w.heap.size (fun k_ => some k_ ≠ (v502 : Value).ownBlock) v519 t518) ∧ Aside0 (Kd.R k34 34 w' w.heap.size (fun k_ => some k_ ≠ ((.slice Ao20 t495.length co20) : Value).ownBlock) (.slice Ao16 t492.length co16) t492) ∧ Aside0 (Kd.V k34 34 w' w.heap.size (fun k_ => some k_ ≠ ((.slice Ao20 t495.length co20) : Value).ownBlock ∧ some k_ ≠ (v502 : Value).ownBlock ∧ some k_ ≠ (v519 : Value).ownBlock ∧ k_ ≠ gb491 ∧ k_ ≠ gb508 ∧ k_ ≠ gb517 ∧ k_ ≠ gb525) (.slice Ao23 t504.length co23) t504) ∧ Aside0 (Kd.V k34 34 w' w.heap.size (fun k_ => some k_ ≠ ((.slice Ao20 t495.length co20) : Value).ownBlock ∧ some k_ ≠ (v502 : Value).ownBlock ∧ some k_ ≠ (v519 : Value).ownBlock ∧ k_ ≠ gb491 ∧ k_ ≠ gb508 ∧ k_ ≠ gb517 ∧ k_ ≠ gb525) (.slice Ao46 x518000_9.length co46) x518000_9) ∧ Aside0 (Kd.V k34 34 w' w.heap.size (fun k_ => some k_ ≠ ((.slice Ao20 t495.length co20) : Value).ownBlock ∧ some k_ ≠ (v502 : Value).ownBlock ∧ some k_ ≠ (v519 : Value).ownBlock ∧ k_ ≠ gb491 ∧ k_ ≠ gb508 ∧ k_ ≠ gb517 ∧ k_ ≠ gb525) (.slice Ao49 t521.length co49) t521) ∧ Aside0 (w'.heap[gb491]? = some (.cells #[(.slice Ao16 t492.length co16)] 24 (0, 0))) ∧ Aside0 (w'.heap[gb508]? = some (.cells #[(.slice Ao23 t504.length co23)] 24 (0, 0))) ∧ Aside0 (w'.heap[gb517]? = some (.cells #[(.slice Ao46 x518000_9.length co46)] 24 (0, 0))) ∧ Aside0 (w'.heap[gb525]? = some (.cells #[(.slice Ao49 t521.length co49)] 24 (0, 0))) ∧ Aside0 (Below w.heap.size w w'))
              case atStart => exact ⟨(0), (by first | rfl | (simp; done) | (simp [*]; done)), H', ⟨Nat.le_refl _⟩, ⟨by (with_reducible repeat (first | apply Kd.R_alloc | apply Kd.R_drewN | apply Kd.R_drew)); exact HO_1.out⟩, ⟨by (with_reducible repeat (first | apply Kd.R_alloc | apply Kd.R_drewN | apply Kd.R_drew)); exact HO_7.out⟩, ⟨by (with_reducible repeat (first | apply Kd.R_alloc | apply Kd.R_drewN | apply Kd.R_drew)); exact HO_13.out⟩, ⟨by (with_reducible repeat (first | apply Kd.R_alloc | apply Kd.R_drewN | apply Kd.R_drew)); exact HO_492000.out⟩, ⟨by (with_reducible repeat (first | apply Kd.V_alloc | apply Kd.V_drewN | apply Kd.V_drew)); exact HO_509000.out⟩, ⟨by (with_reducible repeat (first | apply Kd.V_alloc | apply Kd.V_drewN | apply Kd.V_drew)); exact HO_518000.out⟩, ⟨by (with_reducible repeat (first | apply Kd.V_alloc | apply Kd.V_drewN | apply Kd.V_drew)); exact HO_526000.out⟩, ⟨by (with_reducible repeat (first | refine blk_drewN ?_ _ | refine blk_drew ?_ | refine blk_alloc ?_ _)); exact BK491.out⟩, ⟨by (with_reducible repeat (first | refine blk_drewN ?_ _ | refine blk_drew ?_ | refine blk_alloc ?_ _)); exact BK508.out⟩, ⟨by (with_reducible repeat (first | refine blk_drewN ?_ _ | refine blk_drew ?_ | refine blk_alloc ?_ _)); exact BK517.out⟩, ⟨by (with_reducible repeat (first | refine blk_drewN ?_ _ | refine blk_drew ?_ | refine blk_alloc ?_ _)); exact BK525.out⟩, ⟨by repeat (first | (with_reducible first | exact HB.out | apply below_alloc | apply pw_below_drewN | apply below_drew1 | refine below_set ?_ GE491.out | refine below_set ?_ GE508.out | refine below_set ?_ GE517.out | refine below_set ?_ GE525.out) | exact HB.out)⟩⟩
              case round =>
                clear H'
                try clear c1
                try clear c2
                try clear p2
                try clear c3
                try clear c4
                try clear c5
                try clear c6
                try clear c7
                try clear c8
                try clear c8b0
                try clear c8b1
                try clear c9
                try clear c10
                try clear c11
                try clear c24
                try clear c32
                try clear c33
                try clear c35
                try clear c35b0
                try clear c35b1
                try clear c36
                try clear c37
                try clear c39
                try clear c43
                try clear c44
                try clear c50
                try clear c51
                try clear c52
                try clear c54
                try clear c54b0
                try clear c54b1
                try clear c56
                try clear c57
                try clear c57b0
                try clear c57b1
                try clear c57b2
                try clear c58
                try clear c58b0
                try clear c58b1
                try clear c58b2
                try clear c60
                try clear c60b0
                try clear c60b1
                try clear c61
                try clear c62
                try clear c63
                try clear c65
                try clear c66
                try clear c74
                try clear c76
                try clear c77
                try clear c78
                try clear c80
                try clear c81
                try clear c88
                try clear c89
                try clear c90
                try clear c92
                try clear c93
                try clear c98
                try clear c99
                try clear c100
                try clear c102
                try clear c103
                try clear c108
                try clear c109
                try clear c110
                try clear c112
                try clear c113
                try clear c116
                try clear hcz101_0
                try clear hcz104_0
                try clear hcz111_0
                try clear hcz114_0
                try clear hcz12_0
                try clear hcz17_0
                try clear hcz19_0
                try clear hcz25_0
                try clear hcz27_0
                try clear hcz34_0
                try clear hcz38_0
                try clear hcz40_0
                try clear hcz45_0
                try clear hcz53_0
                try clear hcz64_0
                try clear hcz67_0
                try clear hcz71_0
                try clear hcz73_0
                try clear hcz75_0
                try clear hcz79_0
                try clear hcz82_0
                try clear hcz86_0
                try clear hcz91_0
                try clear hcz94_0
                try clear hfz101_0
                try clear hfz104_0
                try clear hfz111_0
                try clear hfz114_0
                try clear hfz12_0
                try clear hfz17_0
                try clear hfz19_0
                try clear hfz25_0
                try clear hfz27_0
                try clear hfz34_0
                try clear hfz38_0
                try clear hfz40_0
                try clear hfz45_0
                try clear hfz53_0
                try clear hfz64_0
                try clear hfz67_0
                try clear hfz71_0
                try clear hfz73_0
                try clear hfz75_0
                try clear hfz79_0
                try clear hfz82_0
                try clear hfz86_0
                try clear hfz91_0
                try clear hfz94_0
                try clear p2
                obtain ⟨x16_3, rfl, HA, HK3, HO_1, HO_7, HO_13, HO_492000, HO_509000, HO_518000, HO_526000, BK491, BK508, BK517, BK525, HB⟩ := hrel
                cases gk with
                | zero => exact absurd HA.out (by simp [graftwoodlaw10_InternStays.l0])
                | succ k3 =>
                  have H := HA.out
                  clear HA
                  simp only [graftwoodlaw10_InternStays.l0] at H
                  by_cases c117 : x16_3 < (t495.length : Int)
                  · rw [if_pos c117] at H
                    have c117b0 : decide (x16_3 < (t495.length : Int)) = true := decide_eq_true c117
                    clear c117
                    by_cases c118 : 0 ≤ x16_3
                    · rw [if_pos c118] at H
                      have c118b0 : decide (0 ≤ x16_3) = true := decide_eq_true c118
                      clear c118
                      by_cases c119 : x16_3 < (t501.length : Int)
                      · rw [if_pos c119] at H
                        have c119b0 : decide (x16_3 < (t501.length : Int)) = true := decide_eq_true c119
                        clear c119
                        obtain ⟨y529, hy529⟩ : ∃ y_ : List Int, y_ = (([rd t501 x16_3] : List Int)) := ⟨_, rfl⟩
                        replace H : ((intern_At.f k3 x518000_9 y529).bind fun bt532 => (if x16_3 < (t518.length : Int) then (if (rd t501 x16_3) = (rd t518 x16_3) then (if bt532.2 = 0 then (if (bt532.1.length : Int) = 1 then (if 0 < (bt532.1.length : Int) then (if (!((((rd_T34 bt532.1 0).f0).toList) == (((rd_T34 t495 x16_3).f0).toList)) || (!((((rd_T34 bt532.1 0).f1).toList) == (((rd_T34 t495 x16_3).f1).toList)))) = true then (some false) else (graftwoodlaw10_InternStays.l0 k3 t495 t501 t518 (wrap64 (x16_3 + 1)) x518000_9)) else (none)) else (some false)) else (some false)) else (some false)) else (none))) = some r := by first | (rw [hy529]; with_reducible exact H) | (have H2_ := (Option.bind_some _ _).symm.trans H; rw [hy529]; with_reducible exact H2_) | (have H2_ := (Option.bind_some _ _).symm.trans H; with_reducible exact H2_) | with_reducible exact H | (rw [hy529]; exact H) | exact H
                        have Ny529 := Aside0.mk hy529
                        clear hy529
                        replace H := Option.bind_eq_some_iff.mp H
                        obtain ⟨⟨t532, t535⟩, A1200, H⟩ := H
                        replace H : (if x16_3 < (t518.length : Int) then (if (rd t501 x16_3) = (rd t518 x16_3) then (if t535 = 0 then (if (t532.length : Int) = 1 then (if 0 < (t532.length : Int) then (if (!((((rd_T34 t532 0).f0).toList) == (((rd_T34 t495 x16_3).f0).toList)) || (!((((rd_T34 t532 0).f1).toList) == (((rd_T34 t495 x16_3).f1).toList)))) = true then (some false) else (graftwoodlaw10_InternStays.l0 k3 t495 t501 t518 (wrap64 (x16_3 + 1)) x518000_9)) else (none)) else (some false)) else (some false)) else (some false)) else (none)) = some r := H
                        have A120 := Aside0.mk A1200
                        clear A1200
                        by_cases c121 : x16_3 < (t518.length : Int)
                        · rw [if_pos c121] at H
                          have c121b0 : decide (x16_3 < (t518.length : Int)) = true := decide_eq_true c121
                          clear c121
                          by_cases c122 : (rd t501 x16_3) = (rd t518 x16_3)
                          · rw [if_pos c122] at H
                            have c122b0 : ((rd t501 x16_3) == (rd t518 x16_3)) = true := beq_iff_eq.mpr c122
                            have c122b1 : ((rd t501 x16_3) != (rd t518 x16_3)) = false := bne_eq_false_iff_eq.mpr c122
                            clear c122
                            by_cases c123 : t535 = 0
                            · rw [if_pos c123] at H
                              have c123b0 : (t535 == 0) = true := beq_iff_eq.mpr c123
                              have c123b1 : (t535 != 0) = false := bne_eq_false_iff_eq.mpr c123
                              clear c123
                              by_cases c124 : (t532.length : Int) = 1
                              · rw [if_pos c124] at H
                                have c124b0 : ((t532.length : Int) == 1) = true := beq_iff_eq.mpr c124
                                have c124b1 : ((t532.length : Int) != 1) = false := bne_eq_false_iff_eq.mpr c124
                                clear c124
                                by_cases c125 : 0 < (t532.length : Int)
                                · rw [if_pos c125] at H
                                  have c125b0 : decide (0 < (t532.length : Int)) = true := decide_eq_true c125
                                  have c125b1 : decide (0 < t532.length) = true := decide_eq_true (by omega)
                                  clear c125
                                  by_cases c126 : (!((((rd_T34 t532 0).f0).toList) == (((rd_T34 t495 x16_3).f0).toList)) || (!((((rd_T34 t532 0).f1).toList) == (((rd_T34 t495 x16_3).f1).toList)))) = true
                                  · rw [if_pos c126] at H
                                    have c126b0 : (!((((rd_T34 t532 0).f0).toList) == (((rd_T34 t495 x16_3).f0).toList)) || (!((((rd_T34 t532 0).f1).toList) == (((rd_T34 t495 x16_3).f1).toList)))) = true := c126
                                    clear c126
                                    exact absurd ((Option.some.inj H).trans hR_) (by decide)
                                  · rw [if_neg c126] at H
                                    have c126b0 : (!((((rd_T34 t532 0).f0).toList) == (((rd_T34 t495 x16_3).f0).toList)) || (!((((rd_T34 t532 0).f1).toList) == (((rd_T34 t495 x16_3).f1).toList)))) = false := by simpa using c126
                                    clear c126
                                    have H' := Aside0.mk H
                                    clear H
                                    try go_wp2
                                    have n0_ := Aside0.mk (Kd.R_drew HO_1.out)
                                    have n1_ := Aside0.mk (Kd.R_drew HO_7.out)
                                    have n2_ := Aside0.mk (Kd.R_drew HO_13.out)
                                    have n3_ := Aside0.mk (Kd.R_drew HO_492000.out)
                                    have n4_ := Aside0.mk (Kd.V_drew HO_509000.out)
                                    have n5_ := Aside0.mk (Kd.V_drew HO_518000.out)
                                    have n6_ := Aside0.mk (Kd.V_drew HO_526000.out)
                                    have n7_ := Aside0.mk (blk_drew BK491.out)
                                    have n8_ := Aside0.mk (blk_drew BK508.out)
                                    have n9_ := Aside0.mk (blk_drew BK517.out)
                                    have n10_ := Aside0.mk (blk_drew BK525.out)
                                    have n11_ := Aside0.mk (below_drew1 HB.out)
                                    clear HO_1
                                    clear HO_7
                                    clear HO_13
                                    clear HO_492000
                                    clear HO_509000
                                    clear HO_518000
                                    clear HO_526000
                                    clear BK491
                                    clear BK508
                                    clear BK517
                                    clear BK525
                                    clear HB
                                    have HO_1 := n0_
                                    have HO_7 := n1_
                                    have HO_13 := n2_
                                    have HO_492000 := n3_
                                    have HO_509000 := n4_
                                    have HO_518000 := n5_
                                    have HO_526000 := n6_
                                    have BK491 := n7_
                                    have BK508 := n8_
                                    have BK517 := n9_
                                    have BK525 := n10_
                                    have HB := n11_
                                    clear n0_ n1_ n2_ n3_ n4_ n5_ n6_ n7_ n8_ n9_ n10_ n11_
                                    obtain ⟨Ao137, co137, eo137⟩ := Kd.R_slice HO_7.out
                                    (first | subst eo137 | (injection eo137 with f1_ f2_ f3_; have f4_ := f1_.symm; have f5_ := f3_.symm; clear f1_ f2_ f3_; subst f4_; subst f5_))
                                    have p528 : 0 ≤ (x16_3 : Int) := of_decide_eq_true (by first | (with_reducible assumption) | assumption)
                                    have q528 : x16_3 < (t501.length : Int) := of_decide_eq_true (by first | (with_reducible assumption) | assumption)
                                    obtain ⟨ad528, e528, hx528_0⟩ := Kd.at_int (Kd.R_reads' HO_7.out).2.2 x16_3 p528 q528
                                    cases e528
                                    replace p528 := eq_true p528
                                    replace q528 := eq_true q528
                                    refine start_ (n := 12) (S := fun w' => w'.cell? ⟨gb517, 0, none⟩ = some (.slice Ao46 x518000_9.length co46) ∧ w'.cell? (ad528.add (x16_3).toNat) = some (.int .i64 (rd t501 x16_3))) (ds := []) #[false, false, false, false, false, false, false, false, false, false, false, false] (by kernel_rfl) rfl rfl ⟨(blk_cell BK517.out 0).trans rfl, hx528_0⟩ (fun hHeld => ?_); refine with_tabW graftwoodlaw10_InternStays.tab14 graftwoodlaw10_InternStays.bits14 (fun HT_ HW_ => ?_)
                                    generalize wr.drew = w136 at HO_1 HO_7 HO_13 HO_492000 HO_509000 HO_518000 HO_526000 BK491 BK508 BK517 BK525 HB hx528_0 hHeld ⊢
                                    refine pure_ (i := 1) (N := some 99) (v := ?_) (a' := ?_) #[false, true, false, false, false, false, false, false, false, false, false, false] rfl rfl (any_of HT_.out (by kernel_rfl)) (fun _ _ _ h => h) (Or.inl ⟨by rfl, ?_⟩) ?_ ?_
                                    rotate_left
                                    · intro w'
                                      go_simp
                                      with_reducible rfl
                                    rotate_left
                                    · simp only [Act.put, List.setIfInBounds_toArray, List.set_cons_zero, List.set_cons_succ, i64_w, i32_w]
                                      rfl
                                    refine pure_ (i := 2) (N := some 100) (v := ?_) (a' := ?_) #[false, true, true, false, false, false, false, false, false, false, false, false] rfl rfl (any_of HT_.out (by kernel_rfl)) (fun _ _ _ h => h) (Or.inl ⟨by rfl, ?_⟩) ?_ ?_
                                    rotate_left
                                    · intro w'
                                      go_simp
                                      with_reducible rfl
                                    rotate_left
                                    · simp only [Act.put, List.setIfInBounds_toArray, List.set_cons_zero, List.set_cons_succ, i64_w, i32_w]
                                      rfl
                                    refine pure_ (i := 3) (N := some 101) (v := ?_) (a' := ?_) #[false, true, true, true, false, false, false, false, false, false, false, false] rfl rfl (any_of HT_.out (by kernel_rfl)) (fun _ _ _ h => h) (Or.inl ⟨by rfl, ?_⟩) ?_ ?_
                                    rotate_left
                                    · intro w'
                                      go_simp
                                      with_reducible rfl
                                    rotate_left
                                    · simp only [Act.put, List.setIfInBounds_toArray, List.set_cons_zero, List.set_cons_succ, i64_w, i32_w]
                                      rfl
                                    refine take_ (i := 0) (N := some 98) (v := ?_) (a' := ?_) #[true, true, true, true, false, false, false, false, false, false, false, false] rfl rfl (take_ofW HT_.out HW_.out (by kernel_rfl)) (fun _ _ _ h => h) (Or.inl ⟨by rfl, ?_⟩) hHeld ?_ ?_
                                    rotate_left
                                    · rintro w' ⟨s0, s1⟩
                                      go_simp
                                      with_reducible rfl
                                    rotate_left
                                    · simp only [Act.put, List.setIfInBounds_toArray, List.set_cons_zero, List.set_cons_succ, i64_w, i32_w]
                                      rfl
                                    refine take_ (i := 4) (N := some 102) (v := ?_) (a' := ?_) #[true, true, true, true, true, false, false, false, false, false, false, false] rfl rfl (take_ofW HT_.out HW_.out (by kernel_rfl)) (fun _ _ _ h => h) (Or.inl ⟨by rfl, ?_⟩) hHeld ?_ ?_
                                    rotate_left
                                    · rintro w' ⟨s0, s1⟩
                                      go_simp
                                      with_reducible rfl
                                    rotate_left
                                    · simp only [Act.put, List.setIfInBounds_toArray, List.set_cons_zero, List.set_cons_succ, i64_w, i32_w]
                                      rfl
                                    refine one_ (i := 5) (N := some 103) #[true, true, true, true, true, true, false, false, false, false, false, false] rfl rfl (one_of HT_.out (by kernel_rfl)) (by decide) (fun K hK => ?_)
                                    refine Kd.R_lit_step (Kd.int .i64) _ 3 ?hg (N := 103) ?hd (xs := ([rd t501 x16_3] : List Int)) (inner := [.int .i64 (rd t501 x16_3)]) (ok := fun _ => True) (okp := fun _ => True) ?hr ?hp (fun _ hk => hk) trivial (Below.refl _ _) (Nat.le_refl _) (by simp) ?_; (case hd => rfl); (case hg => rfl); (case hr => first | (go_simp; done) | (go_simp; rfl)); (case hp => exact (Reps.one (show Kd.M (Kd.int .i64) _ _ _ (rd t501 x16_3) [.int .i64 (rd t501 x16_3)] from rfl) (Reps.none _ _)))
                                    intro v530 w138 ho139 hb hg_ hnew_
                                    have HS1_ := (hb.cell (World.block_lt_of_cell? _ _ (hHeld.2))).trans (hHeld.2)
                                    clear hg_ hnew_
                                    (first | rw [← Ny529.out] at ho139 | (simp only [Int.reduceToNat] at ho139; rw [← Ny529.out] at ho139))
                                    have n0_ := Aside0.mk (Kd.R_below (by (with_reducible repeat (first | apply Kd.R_alloc | apply Kd.R_drewN | apply Kd.R_drew)); exact HO_1.out) hb)
                                    have n1_ := Aside0.mk (Kd.R_elder' (by (with_reducible repeat (first | apply Kd.R_alloc | apply Kd.R_drewN | apply Kd.R_drew)); exact HO_7.out) (Kd.R_base ho139) hb)
                                    have n2_ := Aside0.mk (Kd.R_elder' (by (with_reducible repeat (first | apply Kd.R_alloc | apply Kd.R_drewN | apply Kd.R_drew)); exact HO_13.out) (Kd.R_base ho139) hb)
                                    have n3_ := Aside0.mk (Kd.R_below (by (with_reducible repeat (first | apply Kd.R_alloc | apply Kd.R_drewN | apply Kd.R_drew)); exact HO_492000.out) hb)
                                    have n4_ := Aside0.mk (Kd.V_elder' (by (with_reducible repeat (first | apply Kd.V_alloc | apply Kd.V_drewN | apply Kd.V_drew)); exact HO_509000.out) (Kd.R_base ho139) hb)
                                    have n5_ := Aside0.mk (Kd.V_elder' (by (with_reducible repeat (first | apply Kd.V_alloc | apply Kd.V_drewN | apply Kd.V_drew)); exact HO_518000.out) (Kd.R_base ho139) hb)
                                    have n6_ := Aside0.mk (Kd.V_elder' (by (with_reducible repeat (first | apply Kd.V_alloc | apply Kd.V_drewN | apply Kd.V_drew)); exact HO_526000.out) (Kd.R_base ho139) hb)
                                    have n7_ := Aside0.mk (Kd.R_lower (Kd.R_new' (Kd.R_new' ho139 (Kd.R_lt (by (with_reducible repeat (first | apply Kd.R_alloc | apply Kd.R_drewN | apply Kd.R_drew)); exact HO_7.out))) (Kd.R_lt (by (with_reducible repeat (first | apply Kd.R_alloc | apply Kd.R_drewN | apply Kd.R_drew)); exact HO_13.out))) (below_size (by repeat (first | (with_reducible first | exact HB.out | apply below_alloc | apply pw_below_drewN | apply below_drew1 | refine below_set ?_ GE491.out | refine below_set ?_ GE508.out | refine below_set ?_ GE517.out | refine below_set ?_ GE525.out) | exact HB.out))))
                                    have n8_ := Aside0.mk (blk_below (g := gb491) (o := .cells #[.slice Ao16 t492.length co16] 24 (0, 0)) (by (with_reducible repeat (first | refine blk_drewN ?_ _ | refine blk_drew ?_ | refine blk_alloc ?_ _)); exact BK491.out) hb)
                                    have n9_ := Aside0.mk (blk_below (g := gb508) (o := .cells #[.slice Ao23 t504.length co23] 24 (0, 0)) (by (with_reducible repeat (first | refine blk_drewN ?_ _ | refine blk_drew ?_ | refine blk_alloc ?_ _)); exact BK508.out) hb)
                                    have n10_ := Aside0.mk (blk_below (g := gb517) (o := .cells #[.slice Ao46 x518000_9.length co46] 24 (0, 0)) (by (with_reducible repeat (first | refine blk_drewN ?_ _ | refine blk_drew ?_ | refine blk_alloc ?_ _)); exact BK517.out) hb)
                                    have n11_ := Aside0.mk (blk_below (g := gb525) (o := .cells #[.slice Ao49 t521.length co49] 24 (0, 0)) (by (with_reducible repeat (first | refine blk_drewN ?_ _ | refine blk_drew ?_ | refine blk_alloc ?_ _)); exact BK525.out) hb)
                                    have n12_ := Aside0.mk (below_step (by repeat (first | (with_reducible first | exact HB.out | apply below_alloc | apply pw_below_drewN | apply below_drew1 | refine below_set ?_ GE491.out | refine below_set ?_ GE508.out | refine below_set ?_ GE517.out | refine below_set ?_ GE525.out) | exact HB.out)) hb)
                                    clear HO_1
                                    clear HO_7
                                    clear HO_13
                                    clear HO_492000
                                    clear HO_509000
                                    clear HO_518000
                                    clear HO_526000
                                    clear BK491
                                    clear BK508
                                    clear BK517
                                    clear BK525
                                    clear HB
                                    have HO_1 := n0_
                                    have HO_7 := n1_
                                    have HO_13 := n2_
                                    have HO_492000 := n3_
                                    have HO_509000 := n4_
                                    have HO_518000 := n5_
                                    have HO_526000 := n6_
                                    have HO531 := n7_
                                    have BK491 := n8_
                                    have BK508 := n9_
                                    have BK517 := n10_
                                    have BK525 := n11_
                                    have HB := n12_
                                    clear n0_ n1_ n2_ n3_ n4_ n5_ n6_ n7_ n8_ n9_ n10_ n11_ n12_
                                    clear hb ho139
                                    obtain ⟨Ao140, co140, eo140⟩ := Kd.R_slice HO531.out
                                    (first | subst eo140 | (injection eo140 with f1_ f2_ f3_; have f4_ := f1_.symm; have f5_ := f3_.symm; clear f1_ f2_ f3_; subst f4_; subst f5_))
                                    refine hK.out _ _ ⟨(blk_cell BK517.out 0).trans rfl, HS1_⟩ (fun hHeld => ?_)
                                    clear hK K
                                    refine norm_ (a' := ?_) ?_ ?_
                                    rotate_left
                                    · show Act.put _ (some 103) _ = _
                                      simp only [Act.put, List.setIfInBounds_toArray, List.set_cons_zero, List.set_cons_succ, i64_w, i32_w]
                                      rfl
                                    refine one_ (i := 6) (N := some 104) #[true, true, true, true, true, true, true, false, false, false, false, false] rfl rfl (one_of HT_.out (by kernel_rfl)) (by decide) (fun K hK => ?_)
                                    refine goes_ Tryd.func18 (by kernel_rfl) rfl #[.agg #[.slice Ao46 x518000_9.length co46], .slice Ao140 y529.length co140] (by rfl) rfl rfl (by (try simp only [List.map_toArray, List.map_cons, List.map_nil]); first | done | rfl | (simp only [List.length_drop, List.length_take]; rfl)) ?_
                                    with_reducible refine (intern_At.calls k3 _ _ x518000_9 _ _ y529 t532 t535 _ ?side1 ?side2 ?side3 ?side4 A120.out).mono ?_
                                    (case side1 => repeat (first | exact (Kd.V_reads' HO_518000.out).2.2 | (with_reducible refine Kd.C_alloc ?_ _) | (with_reducible refine Kd.C_drewN ?_ _) | (with_reducible refine Kd.C_drew ?_)))
                                    (case side2 => exact (Kd.V_reads' HO_518000.out).2.1)
                                    (case side3 => repeat (first | exact (Kd.R_reads' HO531.out).2.2 | (with_reducible refine Kd.C_alloc ?_ _) | (with_reducible refine Kd.C_drewN ?_ _) | (with_reducible refine Kd.C_drew ?_)))
                                    (case side4 => exact (Kd.R_reads' HO531.out).2.1)
                                    rintro e w141 ⟨v533, rfl, ho0, hb⟩
                                    have HS1_ := (hb.cell (World.block_lt_of_cell? _ _ (hHeld.2))).trans (hHeld.2)
                                    refine ⟨_, rfl, ?_⟩
                                    have n0_ := Aside0.mk (Kd.R_elder' (by (with_reducible repeat (first | apply Kd.R_alloc | apply Kd.R_drewN | apply Kd.R_drew)); exact HO_1.out) (Kd.R_base ho0) hb)
                                    have n1_ := Aside0.mk (Kd.R_below (by (with_reducible repeat (first | apply Kd.R_alloc | apply Kd.R_drewN | apply Kd.R_drew)); exact HO_7.out) hb)
                                    have n2_ := Aside0.mk (Kd.R_below (by (with_reducible repeat (first | apply Kd.R_alloc | apply Kd.R_drewN | apply Kd.R_drew)); exact HO_13.out) hb)
                                    have n3_ := Aside0.mk (Kd.R_elder' (by (with_reducible repeat (first | apply Kd.R_alloc | apply Kd.R_drewN | apply Kd.R_drew)); exact HO_492000.out) (Kd.R_base ho0) hb)
                                    have n4_ := Aside0.mk (Kd.V_elder' (by (with_reducible repeat (first | apply Kd.V_alloc | apply Kd.V_drewN | apply Kd.V_drew)); exact HO_509000.out) (Kd.R_base ho0) hb)
                                    have n5_ := Aside0.mk (Kd.V_elder' (by (with_reducible repeat (first | apply Kd.V_alloc | apply Kd.V_drewN | apply Kd.V_drew)); exact HO_518000.out) (Kd.R_base ho0) hb)
                                    have n6_ := Aside0.mk (Kd.V_elder' (by (with_reducible repeat (first | apply Kd.V_alloc | apply Kd.V_drewN | apply Kd.V_drew)); exact HO_526000.out) (Kd.R_base ho0) hb)
                                    have n7_ := Aside0.mk (Kd.R_below (by (with_reducible repeat (first | apply Kd.R_alloc | apply Kd.R_drewN | apply Kd.R_drew)); exact HO531.out) hb)
                                    have n8_ := Aside0.mk (Kd.R_lower (Kd.R_new' (Kd.R_new' ho0 (Kd.R_lt (by (with_reducible repeat (first | apply Kd.R_alloc | apply Kd.R_drewN | apply Kd.R_drew)); exact HO_1.out))) (Kd.R_lt (by (with_reducible repeat (first | apply Kd.R_alloc | apply Kd.R_drewN | apply Kd.R_drew)); exact HO_492000.out))) (below_size (by repeat (first | (with_reducible first | exact HB.out | apply below_alloc | apply pw_below_drewN | apply below_drew1 | refine below_set ?_ GE491.out | refine below_set ?_ GE508.out | refine below_set ?_ GE517.out | refine below_set ?_ GE525.out) | exact HB.out))))
                                    have n9_ := Aside0.mk (blk_below (g := gb491) (o := .cells #[.slice Ao16 t492.length co16] 24 (0, 0)) (by (with_reducible repeat (first | refine blk_drewN ?_ _ | refine blk_drew ?_ | refine blk_alloc ?_ _)); exact BK491.out) hb)
                                    have n10_ := Aside0.mk (blk_below (g := gb508) (o := .cells #[.slice Ao23 t504.length co23] 24 (0, 0)) (by (with_reducible repeat (first | refine blk_drewN ?_ _ | refine blk_drew ?_ | refine blk_alloc ?_ _)); exact BK508.out) hb)
                                    have n11_ := Aside0.mk (blk_below (g := gb517) (o := .cells #[.slice Ao46 x518000_9.length co46] 24 (0, 0)) (by (with_reducible repeat (first | refine blk_drewN ?_ _ | refine blk_drew ?_ | refine blk_alloc ?_ _)); exact BK517.out) hb)
                                    have n12_ := Aside0.mk (blk_below (g := gb525) (o := .cells #[.slice Ao49 t521.length co49] 24 (0, 0)) (by (with_reducible repeat (first | refine blk_drewN ?_ _ | refine blk_drew ?_ | refine blk_alloc ?_ _)); exact BK525.out) hb)
                                    have n13_ := Aside0.mk (below_step (by repeat (first | (with_reducible first | exact HB.out | apply below_alloc | apply pw_below_drewN | apply below_drew1 | refine below_set ?_ GE491.out | refine below_set ?_ GE508.out | refine below_set ?_ GE517.out | refine below_set ?_ GE525.out) | exact HB.out)) hb)
                                    clear HO_1
                                    clear HO_7
                                    clear HO_13
                                    clear HO_492000
                                    clear HO_509000
                                    clear HO_518000
                                    clear HO_526000
                                    clear HO531
                                    clear BK491
                                    clear BK508
                                    clear BK517
                                    clear BK525
                                    clear HB
                                    have HO_1 := n0_
                                    have HO_7 := n1_
                                    have HO_13 := n2_
                                    have HO_492000 := n3_
                                    have HO_509000 := n4_
                                    have HO_518000 := n5_
                                    have HO_526000 := n6_
                                    have HO531 := n7_
                                    have HO534 := n8_
                                    have BK491 := n9_
                                    have BK508 := n10_
                                    have BK517 := n11_
                                    have BK525 := n12_
                                    have HB := n13_
                                    clear n0_ n1_ n2_ n3_ n4_ n5_ n6_ n7_ n8_ n9_ n10_ n11_ n12_ n13_
                                    (try clear hb)
                                    (try clear hb2)
                                    (try clear hk)
                                    (try clear hi)
                                    (try clear ho0)
                                    refine hK.out _ _ ⟨(blk_cell BK517.out 0).trans rfl, HS1_⟩ (fun hHeld => ?_)
                                    clear hK K
                                    refine norm_ (a' := ?_) ?_ ?_
                                    rotate_left
                                    · show Act.put _ (some 104) _ = _
                                      simp only [Act.put, List.setIfInBounds_toArray, List.set_cons_zero, List.set_cons_succ, i64_w, i32_w]
                                      rfl
                                    refine pure_ (i := 7) (N := some 97) (v := ?_) (a' := ?_) #[true, true, true, true, true, true, true, true, false, false, false, false] rfl rfl (any_of HT_.out (by kernel_rfl)) (fun _ _ _ h => h) (Or.inl ⟨by rfl, ?_⟩) ?_ ?_
                                    rotate_left
                                    · intro w'
                                      go_simp
                                      with_reducible rfl
                                    rotate_left
                                    · simp only [Act.put, List.setIfInBounds_toArray, List.set_cons_zero, List.set_cons_succ, i64_w, i32_w]
                                      rfl
                                    refine pure_ (i := 8) (N := some 105) (v := ?_) (a' := ?_) #[true, true, true, true, true, true, true, true, true, false, false, false] rfl rfl (any_of HT_.out (by kernel_rfl)) (fun _ _ _ h => h) (Or.inl ⟨by rfl, ?_⟩) ?_ ?_
                                    rotate_left
                                    · intro w'
                                      go_simp
                                      with_reducible rfl
                                    rotate_left
                                    · simp only [Act.put, List.setIfInBounds_toArray, List.set_cons_zero, List.set_cons_succ, i64_w, i32_w]
                                      rfl
                                    refine pure_ (i := 9) (N := some 106) (v := ?_) (a' := ?_) #[true, true, true, true, true, true, true, true, true, true, false, false] rfl rfl (any_of HT_.out (by kernel_rfl)) (fun _ _ _ h => h) (Or.inl ⟨by rfl, ?_⟩) ?_ ?_
                                    rotate_left
                                    · intro w'
                                      go_simp
                                      with_reducible rfl
                                    rotate_left
                                    · simp only [Act.put, List.setIfInBounds_toArray, List.set_cons_zero, List.set_cons_succ, i64_w, i32_w]
                                      rfl
                                    refine pure_ (i := 10) (N := some 17) (v := ?_) (a' := ?_) #[true, true, true, true, true, true, true, true, true, true, true, false] rfl rfl (any_of HT_.out (by kernel_rfl)) (fun _ _ _ h => h) (Or.inl ⟨by rfl, ?_⟩) ?_ ?_
                                    rotate_left
                                    · intro w'
                                      go_simp
                                      with_reducible rfl
                                    rotate_left
                                    · simp only [Act.put, List.setIfInBounds_toArray, List.set_cons_zero, List.set_cons_succ, i64_w, i32_w]
                                      rfl
                                    refine pure_ (i := 11) (N := some 18) (v := ?_) (a' := ?_) #[true, true, true, true, true, true, true, true, true, true, true, true] rfl rfl (any_of HT_.out (by kernel_rfl)) (fun _ _ _ h => h) (Or.inl ⟨by rfl, ?_⟩) ?_ ?_
                                    rotate_left
                                    · intro w'
                                      go_simp
                                      with_reducible rfl
                                    rotate_left
                                    · simp only [Act.put, List.setIfInBounds_toArray, List.set_cons_zero, List.set_cons_succ, i64_w, i32_w]
                                      rfl
                                    refine done_ (done_of HT_.out (by kernel_rfl)) ?_
                                    try go_wp2
                                    have n0_ := Aside0.mk (Kd.R_drew HO_1.out)
                                    have n1_ := Aside0.mk (Kd.R_drew HO_7.out)
                                    have n2_ := Aside0.mk (Kd.R_drew HO_13.out)
                                    have n3_ := Aside0.mk (Kd.R_drew HO_492000.out)
                                    have n4_ := Aside0.mk (Kd.V_drew HO_509000.out)
                                    have n5_ := Aside0.mk (Kd.V_drew HO_518000.out)
                                    have n6_ := Aside0.mk (Kd.V_drew HO_526000.out)
                                    have n7_ := Aside0.mk (Kd.R_drew HO531.out)
                                    have n8_ := Aside0.mk (Kd.R_drew HO534.out)
                                    have n9_ := Aside0.mk (blk_drew BK491.out)
                                    have n10_ := Aside0.mk (blk_drew BK508.out)
                                    have n11_ := Aside0.mk (blk_drew BK517.out)
                                    have n12_ := Aside0.mk (blk_drew BK525.out)
                                    have n13_ := Aside0.mk (below_drew1 HB.out)
                                    clear HO_1
                                    clear HO_7
                                    clear HO_13
                                    clear HO_492000
                                    clear HO_509000
                                    clear HO_518000
                                    clear HO_526000
                                    clear HO531
                                    clear HO534
                                    clear BK491
                                    clear BK508
                                    clear BK517
                                    clear BK525
                                    clear HB
                                    have HO_1 := n0_
                                    have HO_7 := n1_
                                    have HO_13 := n2_
                                    have HO_492000 := n3_
                                    have HO_509000 := n4_
                                    have HO_518000 := n5_
                                    have HO_526000 := n6_
                                    have HO531 := n7_
                                    have HO534 := n8_
                                    have BK491 := n9_
                                    have BK508 := n10_
                                    have BK517 := n11_
                                    have BK525 := n12_
                                    have HB := n13_
                                    clear n0_ n1_ n2_ n3_ n4_ n5_ n6_ n7_ n8_ n9_ n10_ n11_ n12_ n13_
                                    have p536 : 0 ≤ (x16_3 : Int) := of_decide_eq_true (by first | (with_reducible assumption) | assumption)
                                    have q536 : x16_3 < (t501.length : Int) := of_decide_eq_true (by first | (with_reducible assumption) | assumption)
                                    obtain ⟨ad536, e536, hx536_0⟩ := Kd.at_int (Kd.R_reads' HO_7.out).2.2 x16_3 p536 q536
                                    obtain rfl : ad528 = ad536 := (by injection e536)
                                    replace p536 := eq_true p536
                                    replace q536 := eq_true q536
                                    obtain ⟨Ao143, co143, eo143⟩ := Kd.R_slice HO_13.out
                                    (first | subst eo143 | (injection eo143 with f1_ f2_ f3_; have f4_ := f1_.symm; have f5_ := f3_.symm; clear f1_ f2_ f3_; subst f4_; subst f5_))
                                    have p537 : 0 ≤ (x16_3 : Int) := of_decide_eq_true (by first | (with_reducible assumption) | assumption)
                                    have q537 : x16_3 < (t518.length : Int) := of_decide_eq_true (by first | (with_reducible assumption) | assumption)
                                    obtain ⟨ad537, e537, hx537_0⟩ := Kd.at_int (Kd.R_reads' HO_13.out).2.2 x16_3 p537 q537
                                    cases e537
                                    replace p537 := eq_true p537
                                    replace q537 := eq_true q537
                                    obtain ⟨Ao144, co144, eo144⟩ := Kd.R_slice HO534.out
                                    (first | subst eo144 | (injection eo144 with f1_ f2_ f3_; have f4_ := f1_.symm; have f5_ := f3_.symm; clear f1_ f2_ f3_; subst f4_; subst f5_))
                                    have p538 : 0 ≤ (0 : Int) := (by omega)
                                    have q538 : 0 < (t532.length : Int) := of_decide_eq_true (by first | (with_reducible assumption) | assumption)
                                    obtain ⟨ad538, e538, hx538_0, hx538_1⟩ := at_T34 (Kd.R_reads' HO534.out).2.2 0 p538 q538
                                    cases e538
                                    have qi538 : (0 < t532.length) = True := eq_true (by omega)
                                    (try rw [show ((0 : Int)).toNat = 0 from rfl] at hx538_0)
                                    (try rw [show 0 * 2 = 0 from rfl] at hx538_0)
                                    (try rw [Addr.add_zero'] at hx538_0)
                                    (try rw [show ((0 : Int)).toNat = 0 from rfl] at hx538_1)
                                    (try rw [show 0 * 2 = 0 from rfl] at hx538_1)
                                    (try rw [Addr.add_zero'] at hx538_1)
                                    replace p538 := eq_true p538
                                    replace q538 := eq_true q538
                                    have p539 : 0 ≤ (x16_3 : Int) := of_decide_eq_true (by first | (with_reducible assumption) | assumption)
                                    have q539 : x16_3 < (t495.length : Int) := of_decide_eq_true (by first | (with_reducible assumption) | assumption)
                                    obtain ⟨ad539, e539, hx539_0, hx539_1⟩ := at_T34 (Kd.R_reads' HO_1.out).2.2 x16_3 p539 q539
                                    cases e539
                                    replace p539 := eq_true p539
                                    replace q539 := eq_true q539
                                    refine start_ (n := 28) (S := fun w' => w'.cell? (ad528.add (x16_3).toNat) = some (.int .i64 (rd t501 x16_3)) ∧ w'.cell? (ad537.add (x16_3).toNat) = some (.int .i64 (rd t518 x16_3)) ∧ w'.cell? ad538 = some (.string ((rd_T34 t532 0).f0)) ∧ w'.cell? ⟨ad538.block, ad538.off + 1, none⟩ = some (.string ((rd_T34 t532 0).f1)) ∧ w'.cell? (ad539.add ((x16_3).toNat * 2)) = some (.string ((rd_T34 t495 x16_3).f0)) ∧ w'.cell? ⟨(ad539.add ((x16_3).toNat * 2)).block, (ad539.add ((x16_3).toNat * 2)).off + 1, none⟩ = some (.string ((rd_T34 t495 x16_3).f1))) (ds := []) #[false, false, false, false, false, false, false, false, false, false, false, false, false, false, false, false, false, false, false, false, false, false, false, false, false, false, false, false] (by kernel_rfl) rfl rfl ⟨hx536_0, hx537_0, hx538_0, hx538_1, hx539_0, hx539_1⟩ (fun hHeld => ?_); refine with_tabW graftwoodlaw10_InternStays.tab15 graftwoodlaw10_InternStays.bits15 (fun HT_ HW_ => ?_)
                                    generalize w141.drew = w142 at HO_1 HO_7 HO_13 HO_492000 HO_509000 HO_518000 HO_526000 HO531 HO534 BK491 BK508 BK517 BK525 HB hx536_0 hx537_0 hx538_0 hx538_1 hx539_0 hx539_1 hHeld ⊢
                                    refine pure_ (i := 0) (N := some 107) (v := ?_) (a' := ?_) #[true, false, false, false, false, false, false, false, false, false, false, false, false, false, false, false, false, false, false, false, false, false, false, false, false, false, false, false] rfl rfl (any_of HT_.out (by kernel_rfl)) (fun _ _ _ h => h) (Or.inl ⟨by rfl, ?_⟩) ?_ ?_
                                    rotate_left
                                    · intro w'
                                      go_simp
                                      with_reducible rfl
                                    rotate_left
                                    · simp only [Act.put, List.setIfInBounds_toArray, List.set_cons_zero, List.set_cons_succ, i64_w, i32_w]
                                      rfl
                                    refine pure_ (i := 1) (N := some 108) (v := ?_) (a' := ?_) #[true, true, false, false, false, false, false, false, false, false, false, false, false, false, false, false, false, false, false, false, false, false, false, false, false, false, false, false] rfl rfl (any_of HT_.out (by kernel_rfl)) (fun _ _ _ h => h) (Or.inl ⟨by rfl, ?_⟩) ?_ ?_
                                    rotate_left
                                    · intro w'
                                      go_simp
                                      with_reducible rfl
                                    rotate_left
                                    · simp only [Act.put, List.setIfInBounds_toArray, List.set_cons_zero, List.set_cons_succ, i64_w, i32_w]
                                      rfl
                                    refine pure_ (i := 2) (N := some 109) (v := ?_) (a' := ?_) #[true, true, true, false, false, false, false, false, false, false, false, false, false, false, false, false, false, false, false, false, false, false, false, false, false, false, false, false] rfl rfl (any_of HT_.out (by kernel_rfl)) (fun _ _ _ h => h) (Or.inl ⟨by rfl, ?_⟩) ?_ ?_
                                    rotate_left
                                    · intro w'
                                      go_simp
                                      with_reducible rfl
                                    rotate_left
                                    · simp only [Act.put, List.setIfInBounds_toArray, List.set_cons_zero, List.set_cons_succ, i64_w, i32_w]
                                      rfl
                                    refine pure_ (i := 4) (N := some 111) (v := ?_) (a' := ?_) #[true, true, true, false, true, false, false, false, false, false, false, false, false, false, false, false, false, false, false, false, false, false, false, false, false, false, false, false] rfl rfl (any_of HT_.out (by kernel_rfl)) (fun _ _ _ h => h) (Or.inl ⟨by rfl, ?_⟩) ?_ ?_
                                    rotate_left
                                    · intro w'
                                      go_simp
                                      with_reducible rfl
                                    rotate_left
                                    · simp only [Act.put, List.setIfInBounds_toArray, List.set_cons_zero, List.set_cons_succ, i64_w, i32_w]
                                      rfl
                                    refine pure_ (i := 5) (N := some 112) (v := ?_) (a' := ?_) #[true, true, true, false, true, true, false, false, false, false, false, false, false, false, false, false, false, false, false, false, false, false, false, false, false, false, false, false] rfl rfl (any_of HT_.out (by kernel_rfl)) (fun _ _ _ h => h) (Or.inl ⟨by rfl, ?_⟩) ?_ ?_
                                    rotate_left
                                    · intro w'
                                      go_simp
                                      with_reducible rfl
                                    rotate_left
                                    · simp only [Act.put, List.setIfInBounds_toArray, List.set_cons_zero, List.set_cons_succ, i64_w, i32_w]
                                      rfl
                                    refine pure_ (i := 6) (N := some 113) (v := ?_) (a' := ?_) #[true, true, true, false, true, true, true, false, false, false, false, false, false, false, false, false, false, false, false, false, false, false, false, false, false, false, false, false] rfl rfl (any_of HT_.out (by kernel_rfl)) (fun _ _ _ h => h) (Or.inl ⟨by rfl, ?_⟩) ?_ ?_
                                    rotate_left
                                    · intro w'
                                      go_simp
                                      with_reducible rfl
                                    rotate_left
                                    · simp only [Act.put, List.setIfInBounds_toArray, List.set_cons_zero, List.set_cons_succ, i64_w, i32_w]
                                      rfl
                                    refine take_ (i := 3) (N := some 110) (v := ?_) (a' := ?_) #[true, true, true, true, true, true, true, false, false, false, false, false, false, false, false, false, false, false, false, false, false, false, false, false, false, false, false, false] rfl rfl (take_ofW HT_.out HW_.out (by kernel_rfl)) (fun _ _ _ h => h) (Or.inl ⟨by rfl, ?_⟩) hHeld ?_ ?_
                                    rotate_left
                                    · rintro w' ⟨s0, s1, s2, s3, s4, s5⟩
                                      go_simp
                                      with_reducible rfl
                                    rotate_left
                                    · simp only [Act.put, List.setIfInBounds_toArray, List.set_cons_zero, List.set_cons_succ, i64_w, i32_w]
                                      rfl
                                    refine take_ (i := 7) (N := some 114) (v := ?_) (a' := ?_) #[true, true, true, true, true, true, true, true, false, false, false, false, false, false, false, false, false, false, false, false, false, false, false, false, false, false, false, false] rfl rfl (take_ofW HT_.out HW_.out (by kernel_rfl)) (fun _ _ _ h => h) (Or.inl ⟨by rfl, ?_⟩) hHeld ?_ ?_
                                    rotate_left
                                    · rintro w' ⟨s0, s1, s2, s3, s4, s5⟩
                                      go_simp
                                      with_reducible rfl
                                    rotate_left
                                    · simp only [Act.put, List.setIfInBounds_toArray, List.set_cons_zero, List.set_cons_succ, i64_w, i32_w]
                                      rfl
                                    refine pure_ (i := 8) (N := some 115) (v := ?_) (a' := ?_) #[true, true, true, true, true, true, true, true, true, false, false, false, false, false, false, false, false, false, false, false, false, false, false, false, false, false, false, false] rfl rfl (any_of HT_.out (by kernel_rfl)) (fun _ _ _ h => h) (Or.inl ⟨by rfl, ?_⟩) ?_ ?_
                                    rotate_left
                                    · intro w'
                                      go_simp
                                      with_reducible rfl
                                    rotate_left
                                    · simp only [Act.put, List.setIfInBounds_toArray, List.set_cons_zero, List.set_cons_succ, i64_w, i32_w]
                                      rfl
                                    refine pure_ (i := 9) (N := some 116) (v := ?_) (a' := ?_) #[true, true, true, true, true, true, true, true, true, true, false, false, false, false, false, false, false, false, false, false, false, false, false, false, false, false, false, false] rfl rfl (any_of HT_.out (by kernel_rfl)) (fun _ _ _ h => h) (Or.inl ⟨by rfl, ?_⟩) ?_ ?_
                                    rotate_left
                                    · intro w'
                                      go_simp
                                      with_reducible rfl
                                    rotate_left
                                    · simp only [Act.put, List.setIfInBounds_toArray, List.set_cons_zero, List.set_cons_succ, i64_w, i32_w]
                                      rfl
                                    refine pure_ (i := 10) (N := some 117) (v := ?_) (a' := ?_) #[true, true, true, true, true, true, true, true, true, true, true, false, false, false, false, false, false, false, false, false, false, false, false, false, false, false, false, false] rfl rfl (any_of HT_.out (by kernel_rfl)) (fun _ _ _ h => h) (Or.inl ⟨by rfl, ?_⟩) ?_ ?_
                                    rotate_left
                                    · intro w'
                                      go_simp
                                      with_reducible rfl
                                    rotate_left
                                    · simp only [Act.put, List.setIfInBounds_toArray, List.set_cons_zero, List.set_cons_succ, i64_w, i32_w]
                                      rfl
                                    refine pure_ (i := 11) (N := some 118) (v := ?_) (a' := ?_) #[true, true, true, true, true, true, true, true, true, true, true, true, false, false, false, false, false, false, false, false, false, false, false, false, false, false, false, false] rfl rfl (any_of HT_.out (by kernel_rfl)) (fun _ _ _ h => h) (Or.inl ⟨by rfl, ?_⟩) ?_ ?_
                                    rotate_left
                                    · intro w'
                                      go_simp
                                      with_reducible rfl
                                    rotate_left
                                    · simp only [Act.put, List.setIfInBounds_toArray, List.set_cons_zero, List.set_cons_succ, i64_w, i32_w]
                                      rfl
                                    refine pure_ (i := 12) (N := some 119) (v := ?_) (a' := ?_) #[true, true, true, true, true, true, true, true, true, true, true, true, true, false, false, false, false, false, false, false, false, false, false, false, false, false, false, false] rfl rfl (any_of HT_.out (by kernel_rfl)) (fun _ _ _ h => h) (Or.inl ⟨by rfl, ?_⟩) ?_ ?_
                                    rotate_left
                                    · intro w'
                                      go_simp
                                      with_reducible rfl
                                    rotate_left
                                    · simp only [Act.put, List.setIfInBounds_toArray, List.set_cons_zero, List.set_cons_succ, i64_w, i32_w]
                                      rfl
                                    refine pure_ (i := 13) (N := some 120) (v := ?_) (a' := ?_) #[true, true, true, true, true, true, true, true, true, true, true, true, true, true, false, false, false, false, false, false, false, false, false, false, false, false, false, false] rfl rfl (any_of HT_.out (by kernel_rfl)) (fun _ _ _ h => h) (Or.inl ⟨by rfl, ?_⟩) ?_ ?_
                                    rotate_left
                                    · intro w'
                                      go_simp
                                      with_reducible rfl
                                    rotate_left
                                    · simp only [Act.put, List.setIfInBounds_toArray, List.set_cons_zero, List.set_cons_succ, i64_w, i32_w]
                                      rfl
                                    refine pure_ (i := 14) (N := some 121) (v := ?_) (a' := ?_) #[true, true, true, true, true, true, true, true, true, true, true, true, true, true, true, false, false, false, false, false, false, false, false, false, false, false, false, false] rfl rfl (any_of HT_.out (by kernel_rfl)) (fun _ _ _ h => h) (Or.inl ⟨by rfl, ?_⟩) ?_ ?_
                                    rotate_left
                                    · intro w'
                                      go_simp
                                      with_reducible rfl
                                    rotate_left
                                    · simp only [Act.put, List.setIfInBounds_toArray, List.set_cons_zero, List.set_cons_succ, i64_w, i32_w]
                                      rfl
                                    refine pure_ (i := 15) (N := some 122) (v := ?_) (a' := ?_) #[true, true, true, true, true, true, true, true, true, true, true, true, true, true, true, true, false, false, false, false, false, false, false, false, false, false, false, false] rfl rfl (any_of HT_.out (by kernel_rfl)) (fun _ _ _ h => h) (Or.inl ⟨by rfl, ?_⟩) ?_ ?_
                                    rotate_left
                                    · intro w'
                                      go_simp
                                      with_reducible rfl
                                    rotate_left
                                    · simp only [Act.put, List.setIfInBounds_toArray, List.set_cons_zero, List.set_cons_succ, i64_w, i32_w]
                                      rfl
                                    refine pure_ (i := 16) (N := some 123) (v := ?_) (a' := ?_) #[true, true, true, true, true, true, true, true, true, true, true, true, true, true, true, true, true, false, false, false, false, false, false, false, false, false, false, false] rfl rfl (any_of HT_.out (by kernel_rfl)) (fun _ _ _ h => h) (Or.inl ⟨by rfl, ?_⟩) ?_ ?_
                                    rotate_left
                                    · intro w'
                                      go_simp
                                      with_reducible rfl
                                    rotate_left
                                    · simp only [Act.put, List.setIfInBounds_toArray, List.set_cons_zero, List.set_cons_succ, i64_w, i32_w]
                                      rfl
                                    refine pure_ (i := 17) (N := some 124) (v := ?_) (a' := ?_) #[true, true, true, true, true, true, true, true, true, true, true, true, true, true, true, true, true, true, false, false, false, false, false, false, false, false, false, false] rfl rfl (any_of HT_.out (by kernel_rfl)) (fun _ _ _ h => h) (Or.inl ⟨by rfl, ?_⟩) ?_ ?_
                                    rotate_left
                                    · intro w'
                                      go_simp
                                      with_reducible rfl
                                    rotate_left
                                    · simp only [Act.put, List.setIfInBounds_toArray, List.set_cons_zero, List.set_cons_succ, i64_w, i32_w]
                                      rfl
                                    refine pure_ (i := 18) (N := some 125) (v := ?_) (a' := ?_) #[true, true, true, true, true, true, true, true, true, true, true, true, true, true, true, true, true, true, true, false, false, false, false, false, false, false, false, false] rfl rfl (any_of HT_.out (by kernel_rfl)) (fun _ _ _ h => h) (Or.inl ⟨by rfl, ?_⟩) ?_ ?_
                                    rotate_left
                                    · intro w'
                                      go_simp
                                      with_reducible rfl
                                    rotate_left
                                    · simp only [Act.put, List.setIfInBounds_toArray, List.set_cons_zero, List.set_cons_succ, i64_w, i32_w]
                                      rfl
                                    refine pure_ (i := 19) (N := some 126) (v := ?_) (a' := ?_) #[true, true, true, true, true, true, true, true, true, true, true, true, true, true, true, true, true, true, true, true, false, false, false, false, false, false, false, false] rfl rfl (any_of HT_.out (by kernel_rfl)) (fun _ _ _ h => h) (Or.inl ⟨by rfl, ?_⟩) ?_ ?_
                                    rotate_left
                                    · intro w'
                                      go_simp
                                      with_reducible rfl
                                    rotate_left
                                    · simp only [Act.put, List.setIfInBounds_toArray, List.set_cons_zero, List.set_cons_succ, i64_w, i32_w]
                                      rfl
                                    refine pure_ (i := 20) (N := some 127) (v := ?_) (a' := ?_) #[true, true, true, true, true, true, true, true, true, true, true, true, true, true, true, true, true, true, true, true, true, false, false, false, false, false, false, false] rfl rfl (any_of HT_.out (by kernel_rfl)) (fun _ _ _ h => h) (Or.inl ⟨by rfl, ?_⟩) ?_ ?_
                                    rotate_left
                                    · intro w'
                                      go_simp
                                      with_reducible rfl
                                    rotate_left
                                    · simp only [Act.put, List.setIfInBounds_toArray, List.set_cons_zero, List.set_cons_succ, i64_w, i32_w]
                                      rfl
                                    refine pure_ (i := 22) (N := some 129) (v := ?_) (a' := ?_) #[true, true, true, true, true, true, true, true, true, true, true, true, true, true, true, true, true, true, true, true, true, false, true, false, false, false, false, false] rfl rfl (any_of HT_.out (by kernel_rfl)) (fun _ _ _ h => h) (Or.inl ⟨by rfl, ?_⟩) ?_ ?_
                                    rotate_left
                                    · intro w'
                                      go_simp
                                      with_reducible rfl
                                    rotate_left
                                    · simp only [Act.put, List.setIfInBounds_toArray, List.set_cons_zero, List.set_cons_succ, i64_w, i32_w]
                                      rfl
                                    refine pure_ (i := 23) (N := some 130) (v := ?_) (a' := ?_) #[true, true, true, true, true, true, true, true, true, true, true, true, true, true, true, true, true, true, true, true, true, false, true, true, false, false, false, false] rfl rfl (any_of HT_.out (by kernel_rfl)) (fun _ _ _ h => h) (Or.inl ⟨by rfl, ?_⟩) ?_ ?_
                                    rotate_left
                                    · intro w'
                                      go_simp
                                      with_reducible rfl
                                    rotate_left
                                    · simp only [Act.put, List.setIfInBounds_toArray, List.set_cons_zero, List.set_cons_succ, i64_w, i32_w]
                                      rfl
                                    refine pure_ (i := 24) (N := some 131) (v := ?_) (a' := ?_) #[true, true, true, true, true, true, true, true, true, true, true, true, true, true, true, true, true, true, true, true, true, false, true, true, true, false, false, false] rfl rfl (any_of HT_.out (by kernel_rfl)) (fun _ _ _ h => h) (Or.inl ⟨by rfl, ?_⟩) ?_ ?_
                                    rotate_left
                                    · intro w'
                                      go_simp
                                      with_reducible rfl
                                    rotate_left
                                    · simp only [Act.put, List.setIfInBounds_toArray, List.set_cons_zero, List.set_cons_succ, i64_w, i32_w]
                                      rfl
                                    refine take_ (i := 21) (N := some 128) (v := ?_) (a' := ?_) #[true, true, true, true, true, true, true, true, true, true, true, true, true, true, true, true, true, true, true, true, true, true, true, true, true, false, false, false] rfl rfl (take_ofW HT_.out HW_.out (by kernel_rfl)) (fun _ _ _ h => h) (Or.inl ⟨by rfl, ?_⟩) hHeld ?_ ?_
                                    rotate_left
                                    · rintro w' ⟨s0, s1, s2, s3, s4, s5⟩
                                      go_simp
                                      with_reducible rfl
                                    rotate_left
                                    · simp only [Act.put, List.setIfInBounds_toArray, List.set_cons_zero, List.set_cons_succ, i64_w, i32_w]
                                      rfl
                                    refine take_ (i := 25) (N := some 132) (v := ?_) (a' := ?_) #[true, true, true, true, true, true, true, true, true, true, true, true, true, true, true, true, true, true, true, true, true, true, true, true, true, true, false, false] rfl rfl (take_ofW HT_.out HW_.out (by kernel_rfl)) (fun _ _ _ h => h) (Or.inl ⟨by rfl, ?_⟩) hHeld ?_ ?_
                                    rotate_left
                                    · rintro w' ⟨s0, s1, s2, s3, s4, s5⟩
                                      go_simp
                                      with_reducible rfl
                                    rotate_left
                                    · simp only [Act.put, List.setIfInBounds_toArray, List.set_cons_zero, List.set_cons_succ, i64_w, i32_w]
                                      rfl
                                    refine pure_ (i := 26) (N := some 133) (v := ?_) (a' := ?_) #[true, true, true, true, true, true, true, true, true, true, true, true, true, true, true, true, true, true, true, true, true, true, true, true, true, true, true, false] rfl rfl (any_of HT_.out (by kernel_rfl)) (fun _ _ _ h => h) (Or.inl ⟨by rfl, ?_⟩) ?_ ?_
                                    rotate_left
                                    · intro w'
                                      go_simp
                                      with_reducible rfl
                                    rotate_left
                                    · simp only [Act.put, List.setIfInBounds_toArray, List.set_cons_zero, List.set_cons_succ, i64_w, i32_w]
                                      rfl
                                    refine pure_ (i := 27) (N := some 134) (v := ?_) (a' := ?_) #[true, true, true, true, true, true, true, true, true, true, true, true, true, true, true, true, true, true, true, true, true, true, true, true, true, true, true, true] rfl rfl (any_of HT_.out (by kernel_rfl)) (fun _ _ _ h => h) (Or.inl ⟨by rfl, ?_⟩) ?_ ?_
                                    rotate_left
                                    · intro w'
                                      go_simp
                                      with_reducible rfl
                                    rotate_left
                                    · simp only [Act.put, List.setIfInBounds_toArray, List.set_cons_zero, List.set_cons_succ, i64_w, i32_w]
                                      rfl
                                    refine done_ (done_of HT_.out (by kernel_rfl)) ?_
                                    try go_wp2
                                    go_roundg k3
                                    case measure => have := HJ9.out; have := HJ41.out; have := HK3.out; omega
                                    case rel => exact ⟨(wrap64 (x16_3 + 1)), (by first | rfl | (simp; done) | (simp [*]; done)), H', ⟨by have := HJ9.out; have := HJ41.out; have := HK3.out; omega⟩, ⟨by (with_reducible repeat (first | apply Kd.R_alloc | apply Kd.R_drewN | apply Kd.R_drew)); exact Kd.R_mono HO_1.out (fun _ hk => hk.1)⟩, ⟨by (with_reducible repeat (first | apply Kd.R_alloc | apply Kd.R_drewN | apply Kd.R_drew)); exact Kd.R_mono HO_7.out (fun _ hk => hk.1)⟩, ⟨by (with_reducible repeat (first | apply Kd.R_alloc | apply Kd.R_drewN | apply Kd.R_drew)); exact Kd.R_mono HO_13.out (fun _ hk => hk.1)⟩, ⟨by (with_reducible repeat (first | apply Kd.R_alloc | apply Kd.R_drewN | apply Kd.R_drew)); exact Kd.R_mono HO_492000.out (fun _ hk => hk.1)⟩, ⟨by (with_reducible repeat (first | apply Kd.V_alloc | apply Kd.V_drewN | apply Kd.V_drew)); exact Kd.V_mono HO_509000.out (fun _ hk => ⟨hk.1.1.1, ⟨hk.1.1.2.1, ⟨hk.1.1.2.2.1, ⟨hk.1.1.2.2.2.1, ⟨hk.1.1.2.2.2.2.1, ⟨hk.1.1.2.2.2.2.2.1, hk.1.1.2.2.2.2.2.2⟩⟩⟩⟩⟩⟩)⟩, ⟨by (with_reducible repeat (first | apply Kd.V_alloc | apply Kd.V_drewN | apply Kd.V_drew)); exact Kd.V_mono HO_518000.out (fun _ hk => ⟨hk.1.1.1, ⟨hk.1.1.2.1, ⟨hk.1.1.2.2.1, ⟨hk.1.1.2.2.2.1, ⟨hk.1.1.2.2.2.2.1, ⟨hk.1.1.2.2.2.2.2.1, hk.1.1.2.2.2.2.2.2⟩⟩⟩⟩⟩⟩)⟩, ⟨by (with_reducible repeat (first | apply Kd.V_alloc | apply Kd.V_drewN | apply Kd.V_drew)); exact Kd.V_mono HO_526000.out (fun _ hk => ⟨hk.1.1.1, ⟨hk.1.1.2.1, ⟨hk.1.1.2.2.1, ⟨hk.1.1.2.2.2.1, ⟨hk.1.1.2.2.2.2.1, ⟨hk.1.1.2.2.2.2.2.1, hk.1.1.2.2.2.2.2.2⟩⟩⟩⟩⟩⟩)⟩, ⟨by (with_reducible repeat (first | refine blk_drewN ?_ _ | refine blk_drew ?_ | refine blk_alloc ?_ _)); exact BK491.out⟩, ⟨by (with_reducible repeat (first | refine blk_drewN ?_ _ | refine blk_drew ?_ | refine blk_alloc ?_ _)); exact BK508.out⟩, ⟨by (with_reducible repeat (first | refine blk_drewN ?_ _ | refine blk_drew ?_ | refine blk_alloc ?_ _)); exact BK517.out⟩, ⟨by (with_reducible repeat (first | refine blk_drewN ?_ _ | refine blk_drew ?_ | refine blk_alloc ?_ _)); exact BK525.out⟩, ⟨by repeat (first | (with_reducible first | exact HB.out | apply below_alloc | apply pw_below_drewN | apply below_drew1 | refine below_set ?_ GE491.out | refine below_set ?_ GE508.out | refine below_set ?_ GE517.out | refine below_set ?_ GE525.out) | exact HB.out)⟩⟩
                                · rw [if_neg c125] at H
                                  exact absurd H (by simp)
                              · rw [if_neg c124] at H
                                have c124b0 : ((t532.length : Int) == 1) = false := beq_eq_false_iff_ne.mpr c124
                                have c124b1 : ((t532.length : Int) != 1) = true := bne_iff_ne.mpr c124
                                exact absurd ((Option.some.inj H).trans hR_) (by decide)
                            · rw [if_neg c123] at H
                              have c123b0 : (t535 == 0) = false := beq_eq_false_iff_ne.mpr c123
                              have c123b1 : (t535 != 0) = true := bne_iff_ne.mpr c123
                              exact absurd ((Option.some.inj H).trans hR_) (by decide)
                          · rw [if_neg c122] at H
                            have c122b0 : ((rd t501 x16_3) == (rd t518 x16_3)) = false := beq_eq_false_iff_ne.mpr c122
                            have c122b1 : ((rd t501 x16_3) != (rd t518 x16_3)) = true := bne_iff_ne.mpr c122
                            exact absurd ((Option.some.inj H).trans hR_) (by decide)
                        · rw [if_neg c121] at H
                          exact absurd H (by simp)
                      · rw [if_neg c119] at H
                        exact absurd H (by simp)
                    · rw [if_neg c118] at H
                      exact absurd H (by simp)
                  · rw [if_neg c117] at H
                    have c117b0 : decide (x16_3 < (t495.length : Int)) = false := decide_eq_false c117
                    clear c117
                    have H' := Aside0.mk H
                    clear H
                    go_wp2
                    go_loopg [19] k3 (fun kq v19 w' => ∃ (x19_4 : Int), v19 = .int .i64 x19_4 ∧ Aside0 (graftwoodlaw10_InternStays.l1 kq x19_4 x518000_9 = some r) ∧ Aside0 (kq ≤ k3) ∧ Aside0 (Kd.R k34 34 w' w.heap.size (fun _ => True) (.slice Ao16 t492.length co16) t492) ∧ Aside0 (Kd.V k34 34 w' w.heap.size (fun k_ => k_ ≠ gb491 ∧ k_ ≠ gb508 ∧ k_ ≠ gb517 ∧ k_ ≠ gb525) (.slice Ao23 t504.length co23) t504) ∧ Aside0 (Kd.V k34 34 w' w.heap.size (fun k_ => k_ ≠ gb491 ∧ k_ ≠ gb508 ∧ k_ ≠ gb517 ∧ k_ ≠ gb525) (.slice Ao46 x518000_9.length co46) x518000_9) ∧ Aside0 (Kd.V k34 34 w' w.heap.size (fun k_ => k_ ≠ gb491 ∧ k_ ≠ gb508 ∧ k_ ≠ gb517 ∧ k_ ≠ gb525) (.slice Ao49 t521.length co49) t521) ∧ Aside0 (w'.heap[gb491]? = some (.cells #[(.slice Ao16 t492.length co16)] 24 (0, 0))) ∧ Aside0 (w'.heap[gb508]? = some (.cells #[(.slice Ao23 t504.length co23)] 24 (0, 0))) ∧ Aside0 (w'.heap[gb517]? = some (.cells #[(.slice Ao46 x518000_9.length co46)] 24 (0, 0))) ∧ Aside0 (w'.heap[gb525]? = some (.cells #[(.slice Ao49 t521.length co49)] 24 (0, 0))) ∧ Aside0 (Below w.heap.size w w'))
                    case atStart => exact ⟨(0), (by first | rfl | (simp; done) | (simp [*]; done)), H', ⟨Nat.le_refl _⟩, ⟨by (with_reducible repeat (first | apply Kd.R_alloc | apply Kd.R_drewN | apply Kd.R_drew)); exact Kd.R_mono HO_492000.out (fun _ hk => trivial)⟩, ⟨by (with_reducible repeat (first | apply Kd.V_alloc | apply Kd.V_drewN | apply Kd.V_drew)); exact Kd.V_mono HO_509000.out (fun _ hk => ⟨hk.2.2.2.1, ⟨hk.2.2.2.2.1, ⟨hk.2.2.2.2.2.1, hk.2.2.2.2.2.2⟩⟩⟩)⟩, ⟨by (with_reducible repeat (first | apply Kd.V_alloc | apply Kd.V_drewN | apply Kd.V_drew)); exact Kd.V_mono HO_518000.out (fun _ hk => ⟨hk.2.2.2.1, ⟨hk.2.2.2.2.1, ⟨hk.2.2.2.2.2.1, hk.2.2.2.2.2.2⟩⟩⟩)⟩, ⟨by (with_reducible repeat (first | apply Kd.V_alloc | apply Kd.V_drewN | apply Kd.V_drew)); exact Kd.V_mono HO_526000.out (fun _ hk => ⟨hk.2.2.2.1, ⟨hk.2.2.2.2.1, ⟨hk.2.2.2.2.2.1, hk.2.2.2.2.2.2⟩⟩⟩)⟩, ⟨by (with_reducible repeat (first | refine blk_drewN ?_ _ | refine blk_drew ?_ | refine blk_alloc ?_ _)); exact BK491.out⟩, ⟨by (with_reducible repeat (first | refine blk_drewN ?_ _ | refine blk_drew ?_ | refine blk_alloc ?_ _)); exact BK508.out⟩, ⟨by (with_reducible repeat (first | refine blk_drewN ?_ _ | refine blk_drew ?_ | refine blk_alloc ?_ _)); exact BK517.out⟩, ⟨by (with_reducible repeat (first | refine blk_drewN ?_ _ | refine blk_drew ?_ | refine blk_alloc ?_ _)); exact BK525.out⟩, ⟨by repeat (first | (with_reducible first | exact HB.out | apply below_alloc | apply pw_below_drewN | apply below_drew1 | refine below_set ?_ GE491.out | refine below_set ?_ GE508.out | refine below_set ?_ GE517.out | refine below_set ?_ GE525.out) | exact HB.out)⟩⟩
                    case round =>
                      clear H'
                      try clear c1
                      try clear p2
                      try clear p5
                      try clear q5
                      try clear hx5
                      try clear c11
                      try clear c12
                      try clear c18
                      try clear p52
                      try clear q52
                      try clear hx52
                      try clear p53
                      try clear q53
                      try clear hx53
                      try clear c117
                      try clear c117b0
                      try clear c118
                      try clear c119
                      try clear c121
                      try clear c122
                      try clear c122b0
                      try clear c122b1
                      try clear hx528_0
                      try clear hx536_0
                      try clear hx537_0
                      try clear p528
                      try clear p536
                      try clear p537
                      try clear q528
                      try clear q536
                      try clear q537
                      obtain ⟨x19_4, rfl, HA, HK4, HO_492000, HO_509000, HO_518000, HO_526000, BK491, BK508, BK517, BK525, HB⟩ := hrel
                      cases gk with
                      | zero => exact absurd HA.out (by simp [graftwoodlaw10_InternStays.l1])
                      | succ k4 =>
                        have H := HA.out
                        clear HA
                        simp only [graftwoodlaw10_InternStays.l1] at H
                        by_cases c170 : x19_4 < (x518000_9.length : Int)
                        · rw [if_pos c170] at H
                          have c170b0 : decide (x19_4 < (x518000_9.length : Int)) = true := decide_eq_true c170
                          clear c170
                          by_cases c171 : 0 ≤ x19_4
                          · rw [if_pos c171] at H
                            have c171b0 : decide (0 ≤ x19_4) = true := decide_eq_true c171
                            clear c171
                            replace H := Option.bind_eq_some_iff.mp H
                            obtain ⟨⟨t541, t542⟩, A1720, H⟩ := H
                            replace H : (if t541 = x19_4 then (if t542 = 0 then (graftwoodlaw10_InternStays.l1 k4 (wrap64 (x19_4 + 1)) x518000_9) else (some false)) else (some false)) = some r := H
                            have A172 := Aside0.mk A1720
                            clear A1720
                            by_cases c173 : t541 = x19_4
                            · rw [if_pos c173] at H
                              have c173b0 : (t541 == x19_4) = true := beq_iff_eq.mpr c173
                              have c173b1 : (t541 != x19_4) = false := bne_eq_false_iff_eq.mpr c173
                              clear c173
                              by_cases c174 : t542 = 0
                              · rw [if_pos c174] at H
                                have c174b0 : (t542 == 0) = true := beq_iff_eq.mpr c174
                                have c174b1 : (t542 != 0) = false := bne_eq_false_iff_eq.mpr c174
                                clear c174
                                have H' := Aside0.mk H
                                clear H
                                have hnb175 := NB517_491.out
                                have hnc175 := NB491_517.out
                                have hnb176 := NB517_508.out
                                have hnc176 := NB508_517.out
                                have hnb177 := NB517_525.out
                                have hnc177 := NB525_517.out
                                have hcz178_0 : wr.cell? ⟨gb517, 0, none⟩ = some (.slice Ao46 x518000_9.length co46) := (blk_cell BK517.out 0).trans rfl
                                have hfz178_0 := blk_frozen BK517.out 0
                                try go_wp2
                                have n0_ := Aside0.mk (Kd.R_drew HO_492000.out)
                                have n1_ := Aside0.mk (Kd.V_drew HO_509000.out)
                                have n2_ := Aside0.mk (Kd.V_drew HO_518000.out)
                                have n3_ := Aside0.mk (Kd.V_drew HO_526000.out)
                                have n4_ := Aside0.mk (blk_drew BK491.out)
                                have n5_ := Aside0.mk (blk_drew BK508.out)
                                have n6_ := Aside0.mk (blk_drew BK517.out)
                                have n7_ := Aside0.mk (blk_drew BK525.out)
                                have n8_ := Aside0.mk (below_drew1 HB.out)
                                clear HO_492000
                                clear HO_509000
                                clear HO_518000
                                clear HO_526000
                                clear BK491
                                clear BK508
                                clear BK517
                                clear BK525
                                clear HB
                                have HO_492000 := n0_
                                have HO_509000 := n1_
                                have HO_518000 := n2_
                                have HO_526000 := n3_
                                have BK491 := n4_
                                have BK508 := n5_
                                have BK517 := n6_
                                have BK525 := n7_
                                have HB := n8_
                                clear n0_ n1_ n2_ n3_ n4_ n5_ n6_ n7_ n8_
                                have p540 : 0 ≤ (x19_4 : Int) := of_decide_eq_true (by first | (with_reducible assumption) | assumption)
                                have q540 : x19_4 < (x518000_9.length : Int) := of_decide_eq_true (by first | (with_reducible assumption) | assumption)
                                obtain ⟨ad540, e540, hx540_0, hx540_1⟩ := at_T34 (Kd.V_reads' HO_518000.out).2.2 x19_4 p540 q540
                                cases e540
                                replace p540 := eq_true p540
                                replace q540 := eq_true q540
                                refine start_ (n := 12) (S := fun w' => w'.cell? ⟨gb517, 0, none⟩ = some (.slice (some ad540) x518000_9.length co46) ∧ w'.cell? (ad540.add ((x19_4).toNat * 2)) = some (.string ((rd_T34 x518000_9 x19_4).f0)) ∧ w'.cell? ⟨(ad540.add ((x19_4).toNat * 2)).block, (ad540.add ((x19_4).toNat * 2)).off + 1, none⟩ = some (.string ((rd_T34 x518000_9 x19_4).f1))) (ds := []) #[false, false, false, false, false, false, false, false, false, false, false, false] (by kernel_rfl) rfl rfl ⟨(blk_cell BK517.out 0).trans rfl, hx540_0, hx540_1⟩ (fun hHeld => ?_); refine with_tabW graftwoodlaw10_InternStays.tab20 graftwoodlaw10_InternStays.bits20 (fun HT_ HW_ => ?_)
                                generalize wr.drew = w179 at HO_492000 HO_509000 HO_518000 HO_526000 BK491 BK508 BK517 BK525 HB hx540_0 hx540_1 hHeld ⊢
                                refine pure_ (i := 1) (N := some 144) (v := ?_) (a' := ?_) #[false, true, false, false, false, false, false, false, false, false, false, false] rfl rfl (any_of HT_.out (by kernel_rfl)) (fun _ _ _ h => h) (Or.inl ⟨by rfl, ?_⟩) ?_ ?_
                                rotate_left
                                · intro w'
                                  go_simp
                                  with_reducible rfl
                                rotate_left
                                · simp only [Act.put, List.setIfInBounds_toArray, List.set_cons_zero, List.set_cons_succ, i64_w, i32_w]
                                  rfl
                                refine pure_ (i := 3) (N := some 146) (v := ?_) (a' := ?_) #[false, true, false, true, false, false, false, false, false, false, false, false] rfl rfl (any_of HT_.out (by kernel_rfl)) (fun _ _ _ h => h) (Or.inl ⟨by rfl, ?_⟩) ?_ ?_
                                rotate_left
                                · intro w'
                                  go_simp
                                  with_reducible rfl
                                rotate_left
                                · simp only [Act.put, List.setIfInBounds_toArray, List.set_cons_zero, List.set_cons_succ, i64_w, i32_w]
                                  rfl
                                refine take_ (i := 0) (N := some 143) (v := ?_) (a' := ?_) #[true, true, false, true, false, false, false, false, false, false, false, false] rfl rfl (take_ofW HT_.out HW_.out (by kernel_rfl)) (fun _ _ _ h => h) (Or.inl ⟨by rfl, ?_⟩) hHeld ?_ ?_
                                rotate_left
                                · rintro w' ⟨s0, s1, s2⟩
                                  go_simp
                                  with_reducible rfl
                                rotate_left
                                · simp only [Act.put, List.setIfInBounds_toArray, List.set_cons_zero, List.set_cons_succ, i64_w, i32_w]
                                  rfl
                                refine take_ (i := 2) (N := some 145) (v := ?_) (a' := ?_) #[true, true, true, true, false, false, false, false, false, false, false, false] rfl rfl (take_ofW HT_.out HW_.out (by kernel_rfl)) (fun _ _ _ h => h) (Or.inl ⟨by rfl, ?_⟩) hHeld ?_ ?_
                                rotate_left
                                · rintro w' ⟨s0, s1, s2⟩
                                  go_simp
                                  with_reducible rfl
                                rotate_left
                                · simp only [Act.put, List.setIfInBounds_toArray, List.set_cons_zero, List.set_cons_succ, i64_w, i32_w]
                                  rfl
                                refine pure_ (i := 4) (N := some 147) (v := ?_) (a' := ?_) #[true, true, true, true, true, false, false, false, false, false, false, false] rfl rfl (any_of HT_.out (by kernel_rfl)) (fun _ _ _ h => h) (Or.inl ⟨by rfl, ?_⟩) ?_ ?_
                                rotate_left
                                · intro w'
                                  go_simp
                                  with_reducible rfl
                                rotate_left
                                · simp only [Act.put, List.setIfInBounds_toArray, List.set_cons_zero, List.set_cons_succ, i64_w, i32_w]
                                  rfl
                                refine take_ (i := 5) (N := some 148) (v := ?_) (a' := ?_) #[true, true, true, true, true, true, false, false, false, false, false, false] rfl rfl (take_ofW HT_.out HW_.out (by kernel_rfl)) (fun _ _ _ h => h) (Or.inl ⟨by rfl, ?_⟩) hHeld ?_ ?_
                                rotate_left
                                · rintro w' ⟨s0, s1, s2⟩
                                  go_simp
                                  with_reducible rfl
                                rotate_left
                                · simp only [Act.put, List.setIfInBounds_toArray, List.set_cons_zero, List.set_cons_succ, i64_w, i32_w]
                                  rfl
                                refine one_ (i := 6) (N := some 149) #[true, true, true, true, true, true, true, false, false, false, false, false] rfl rfl (one_of HT_.out (by kernel_rfl)) (by decide) (fun K hK => ?_)
                                refine goes_ Tryd.func21 (by kernel_rfl) rfl #[.agg #[.slice (some ad540) x518000_9.length co46], .agg #[.string ((rd_T34 x518000_9 x19_4).f0), .string ((rd_T34 x518000_9 x19_4).f1)]] (by rfl) rfl rfl (by (try simp only [List.map_toArray, List.map_cons, List.map_nil]); first | done | rfl | (simp only [List.length_drop, List.length_take]; rfl)) ?_
                                with_reducible refine (intern_Find.calls k4 _ _ x518000_9 ((rd_T34 x518000_9 x19_4).f0) ((rd_T34 x518000_9 x19_4).f1) t541 t542 _ ?side1 ?side2 A172.out).mono ?_
                                (case side1 => repeat (first | exact (Kd.V_reads' HO_518000.out).2.2 | (with_reducible refine Kd.C_alloc ?_ _) | (with_reducible refine Kd.C_drewN ?_ _) | (with_reducible refine Kd.C_drew ?_)))
                                (case side2 => exact (Kd.V_reads' HO_518000.out).2.1)
                                rintro e w180 ⟨rfl, hb⟩
                                have HS1_ := (hb.cell (World.block_lt_of_cell? _ _ (hHeld.2.1))).trans (hHeld.2.1)
                                have HS2_ := (hb.cell (World.block_lt_of_cell? _ _ (hHeld.2.2))).trans (hHeld.2.2)
                                refine ⟨_, rfl, ?_⟩
                                have n0_ := Aside0.mk (Kd.R_below (by (with_reducible repeat (first | apply Kd.R_alloc | apply Kd.R_drewN | apply Kd.R_drew)); exact HO_492000.out) hb)
                                have n1_ := Aside0.mk (Kd.V_below (by (with_reducible repeat (first | apply Kd.V_alloc | apply Kd.V_drewN | apply Kd.V_drew)); exact HO_509000.out) hb)
                                have n2_ := Aside0.mk (Kd.V_below (by (with_reducible repeat (first | apply Kd.V_alloc | apply Kd.V_drewN | apply Kd.V_drew)); exact HO_518000.out) hb)
                                have n3_ := Aside0.mk (Kd.V_below (by (with_reducible repeat (first | apply Kd.V_alloc | apply Kd.V_drewN | apply Kd.V_drew)); exact HO_526000.out) hb)
                                have n4_ := Aside0.mk (blk_below (g := gb491) (o := .cells #[.slice Ao16 t492.length co16] 24 (0, 0)) (by (with_reducible repeat (first | refine blk_drewN ?_ _ | refine blk_drew ?_ | refine blk_alloc ?_ _)); exact BK491.out) hb)
                                have n5_ := Aside0.mk (blk_below (g := gb508) (o := .cells #[.slice Ao23 t504.length co23] 24 (0, 0)) (by (with_reducible repeat (first | refine blk_drewN ?_ _ | refine blk_drew ?_ | refine blk_alloc ?_ _)); exact BK508.out) hb)
                                have n6_ := Aside0.mk (blk_below (g := gb517) (o := .cells #[.slice (some ad540) x518000_9.length co46] 24 (0, 0)) (by (with_reducible repeat (first | refine blk_drewN ?_ _ | refine blk_drew ?_ | refine blk_alloc ?_ _)); exact BK517.out) hb)
                                have n7_ := Aside0.mk (blk_below (g := gb525) (o := .cells #[.slice Ao49 t521.length co49] 24 (0, 0)) (by (with_reducible repeat (first | refine blk_drewN ?_ _ | refine blk_drew ?_ | refine blk_alloc ?_ _)); exact BK525.out) hb)
                                have n8_ := Aside0.mk (below_step (by repeat (first | (with_reducible first | exact HB.out | apply below_alloc | apply pw_below_drewN | apply below_drew1 | refine below_set ?_ GE491.out | refine below_set ?_ GE508.out | refine below_set ?_ GE517.out | refine below_set ?_ GE525.out) | exact HB.out)) hb)
                                clear HO_492000
                                clear HO_509000
                                clear HO_518000
                                clear HO_526000
                                clear BK491
                                clear BK508
                                clear BK517
                                clear BK525
                                clear HB
                                have HO_492000 := n0_
                                have HO_509000 := n1_
                                have HO_518000 := n2_
                                have HO_526000 := n3_
                                have BK491 := n4_
                                have BK508 := n5_
                                have BK517 := n6_
                                have BK525 := n7_
                                have HB := n8_
                                clear n0_ n1_ n2_ n3_ n4_ n5_ n6_ n7_ n8_
                                (try clear hb)
                                (try clear hb2)
                                (try clear hk)
                                (try clear hi)
                                refine hK.out _ _ ⟨(blk_cell BK517.out 0).trans rfl, HS1_, HS2_⟩ (fun hHeld => ?_)
                                clear hK K
                                refine norm_ (a' := ?_) ?_ ?_
                                rotate_left
                                · show Act.put _ (some 149) _ = _
                                  simp only [Act.put, List.setIfInBounds_toArray, List.set_cons_zero, List.set_cons_succ, i64_w, i32_w]
                                  rfl
                                refine pure_ (i := 7) (N := some 142) (v := ?_) (a' := ?_) #[true, true, true, true, true, true, true, true, false, false, false, false] rfl rfl (any_of HT_.out (by kernel_rfl)) (fun _ _ _ h => h) (Or.inl ⟨by rfl, ?_⟩) ?_ ?_
                                rotate_left
                                · intro w'
                                  go_simp
                                  with_reducible rfl
                                rotate_left
                                · simp only [Act.put, List.setIfInBounds_toArray, List.set_cons_zero, List.set_cons_succ, i64_w, i32_w]
                                  rfl
                                refine pure_ (i := 8) (N := some 150) (v := ?_) (a' := ?_) #[true, true, true, true, true, true, true, true, true, false, false, false] rfl rfl (any_of HT_.out (by kernel_rfl)) (fun _ _ _ h => h) (Or.inl ⟨by rfl, ?_⟩) ?_ ?_
                                rotate_left
                                · intro w'
                                  go_simp
                                  with_reducible rfl
                                rotate_left
                                · simp only [Act.put, List.setIfInBounds_toArray, List.set_cons_zero, List.set_cons_succ, i64_w, i32_w]
                                  rfl
                                refine pure_ (i := 9) (N := some 151) (v := ?_) (a' := ?_) #[true, true, true, true, true, true, true, true, true, true, false, false] rfl rfl (any_of HT_.out (by kernel_rfl)) (fun _ _ _ h => h) (Or.inl ⟨by rfl, ?_⟩) ?_ ?_
                                rotate_left
                                · intro w'
                                  go_simp
                                  with_reducible rfl
                                rotate_left
                                · simp only [Act.put, List.setIfInBounds_toArray, List.set_cons_zero, List.set_cons_succ, i64_w, i32_w]
                                  rfl
                                refine pure_ (i := 10) (N := some 20) (v := ?_) (a' := ?_) #[true, true, true, true, true, true, true, true, true, true, true, false] rfl rfl (any_of HT_.out (by kernel_rfl)) (fun _ _ _ h => h) (Or.inl ⟨by rfl, ?_⟩) ?_ ?_
                                rotate_left
                                · intro w'
                                  go_simp
                                  with_reducible rfl
                                rotate_left
                                · simp only [Act.put, List.setIfInBounds_toArray, List.set_cons_zero, List.set_cons_succ, i64_w, i32_w]
                                  rfl
                                refine pure_ (i := 11) (N := some 21) (v := ?_) (a' := ?_) #[true, true, true, true, true, true, true, true, true, true, true, true] rfl rfl (any_of HT_.out (by kernel_rfl)) (fun _ _ _ h => h) (Or.inl ⟨by rfl, ?_⟩) ?_ ?_
                                rotate_left
                                · intro w'
                                  go_simp
                                  with_reducible rfl
                                rotate_left
                                · simp only [Act.put, List.setIfInBounds_toArray, List.set_cons_zero, List.set_cons_succ, i64_w, i32_w]
                                  rfl
                                refine done_ (done_of HT_.out (by kernel_rfl)) ?_
                                try go_wp2
                                go_roundg k4
                                case measure => have := HJ9.out; have := HJ41.out; have := HK3.out; have := HK4.out; omega
                                case rel => exact ⟨(wrap64 (x19_4 + 1)), (by first | rfl | (simp; done) | (simp [*]; done)), H', ⟨by have := HJ9.out; have := HJ41.out; have := HK3.out; have := HK4.out; omega⟩, ⟨by (with_reducible repeat (first | apply Kd.R_alloc | apply Kd.R_drewN | apply Kd.R_drew)); exact HO_492000.out⟩, ⟨by (with_reducible repeat (first | apply Kd.V_alloc | apply Kd.V_drewN | apply Kd.V_drew)); exact HO_509000.out⟩, ⟨by (with_reducible repeat (first | apply Kd.V_alloc | apply Kd.V_drewN | apply Kd.V_drew)); exact HO_518000.out⟩, ⟨by (with_reducible repeat (first | apply Kd.V_alloc | apply Kd.V_drewN | apply Kd.V_drew)); exact HO_526000.out⟩, ⟨by (with_reducible repeat (first | refine blk_drewN ?_ _ | refine blk_drew ?_ | refine blk_alloc ?_ _)); exact BK491.out⟩, ⟨by (with_reducible repeat (first | refine blk_drewN ?_ _ | refine blk_drew ?_ | refine blk_alloc ?_ _)); exact BK508.out⟩, ⟨by (with_reducible repeat (first | refine blk_drewN ?_ _ | refine blk_drew ?_ | refine blk_alloc ?_ _)); exact BK517.out⟩, ⟨by (with_reducible repeat (first | refine blk_drewN ?_ _ | refine blk_drew ?_ | refine blk_alloc ?_ _)); exact BK525.out⟩, ⟨by repeat (first | (with_reducible first | exact HB.out | apply below_alloc | apply pw_below_drewN | apply below_drew1 | refine below_set ?_ GE491.out | refine below_set ?_ GE508.out | refine below_set ?_ GE517.out | refine below_set ?_ GE525.out) | exact HB.out)⟩⟩
                              · rw [if_neg c174] at H
                                have c174b0 : (t542 == 0) = false := beq_eq_false_iff_ne.mpr c174
                                have c174b1 : (t542 != 0) = true := bne_iff_ne.mpr c174
                                exact absurd ((Option.some.inj H).trans hR_) (by decide)
                            · rw [if_neg c173] at H
                              have c173b0 : (t541 == x19_4) = false := beq_eq_false_iff_ne.mpr c173
                              have c173b1 : (t541 != x19_4) = true := bne_iff_ne.mpr c173
                              exact absurd ((Option.some.inj H).trans hR_) (by decide)
                          · rw [if_neg c171] at H
                            exact absurd H (by simp)
                        · rw [if_neg c170] at H
                          have c170b0 : decide (x19_4 < (x518000_9.length : Int)) = false := decide_eq_false c170
                          clear c170
                          replace H := Option.bind_eq_some_iff.mp H
                          obtain ⟨t543, A1930, H⟩ := H
                          replace H : (some t543) = some r := H
                          have A193 := Aside0.mk A1930
                          clear A1930
                          obtain rfl := Option.some.inj H
                          have hnb194 := NB517_491.out
                          have hnc194 := NB491_517.out
                          have hnb195 := NB517_508.out
                          have hnc195 := NB508_517.out
                          have hnb196 := NB517_525.out
                          have hnc196 := NB525_517.out
                          have hcz197_0 : wr.cell? ⟨gb517, 0, none⟩ = some (.slice Ao46 x518000_9.length co46) := (blk_cell BK517.out 0).trans rfl
                          have hfz197_0 := blk_frozen BK517.out 0
                          go_wp2_with (first | ((with_reducible refine gate_callee (f := 14) rfl ?_); refine goesL_ (some 159) rfl rfl Tryd.func14 (by kernel_rfl) rfl #[] rfl (by (try simp only [List.map_toArray, List.map_cons, List.map_nil]); first | done | rfl | (simp only [List.length_drop, List.length_take]; rfl)) ?_; (with_reducible refine (graftwoodlaw10_awake.calls k4  t543 _ A193.out).mono ?_); rintro e w198 ⟨rfl, hb⟩; refine ⟨_, rfl, ?_⟩; have n0_ := Aside0.mk (Kd.R_below (by (with_reducible repeat (first | apply Kd.R_alloc | apply Kd.R_drewN | apply Kd.R_drew)); exact HO_492000.out) hb); have n1_ := Aside0.mk (Kd.V_below (by (with_reducible repeat (first | apply Kd.V_alloc | apply Kd.V_drewN | apply Kd.V_drew)); exact HO_509000.out) hb); have n2_ := Aside0.mk (Kd.V_below (by (with_reducible repeat (first | apply Kd.V_alloc | apply Kd.V_drewN | apply Kd.V_drew)); exact HO_518000.out) hb); have n3_ := Aside0.mk (Kd.V_below (by (with_reducible repeat (first | apply Kd.V_alloc | apply Kd.V_drewN | apply Kd.V_drew)); exact HO_526000.out) hb); have n4_ := Aside0.mk (blk_below (g := gb491) (o := .cells #[.slice Ao16 t492.length co16] 24 (0, 0)) (by (with_reducible repeat (first | refine blk_drewN ?_ _ | refine blk_drew ?_ | refine blk_alloc ?_ _)); exact BK491.out) hb); have n5_ := Aside0.mk (blk_below (g := gb508) (o := .cells #[.slice Ao23 t504.length co23] 24 (0, 0)) (by (with_reducible repeat (first | refine blk_drewN ?_ _ | refine blk_drew ?_ | refine blk_alloc ?_ _)); exact BK508.out) hb); have n6_ := Aside0.mk (blk_below (g := gb517) (o := .cells #[.slice Ao46 x518000_9.length co46] 24 (0, 0)) (by (with_reducible repeat (first | refine blk_drewN ?_ _ | refine blk_drew ?_ | refine blk_alloc ?_ _)); exact BK517.out) hb); have n7_ := Aside0.mk (blk_below (g := gb525) (o := .cells #[.slice Ao49 t521.length co49] 24 (0, 0)) (by (with_reducible repeat (first | refine blk_drewN ?_ _ | refine blk_drew ?_ | refine blk_alloc ?_ _)); exact BK525.out) hb); have n8_ := Aside0.mk (below_step (by repeat (first | (with_reducible first | exact HB.out | apply below_alloc | apply pw_below_drewN | apply below_drew1 | refine below_set ?_ GE491.out | refine below_set ?_ GE508.out | refine below_set ?_ GE517.out | refine below_set ?_ GE525.out) | exact HB.out)) hb); clear HO_492000; clear HO_509000; clear HO_518000; clear HO_526000; clear BK491; clear BK508; clear BK517; clear BK525; clear HB; have HO_492000 := n0_; have HO_509000 := n1_; have HO_518000 := n2_; have HO_526000 := n3_; have BK491 := n4_; have BK508 := n5_; have BK517 := n6_; have BK525 := n7_; have HB := n8_; clear n0_ n1_ n2_ n3_ n4_ n5_ n6_ n7_ n8_; (try clear hb); (try clear hb2); (try clear hk); (try clear hi)))
                          go_ret
                          exact ⟨by first | rfl | (simp [errW_none, errW_some] <;> rfl) | (simp [*, errW_none, errW_some] <;> rfl), by repeat (first | (with_reducible first | exact HB.out | apply below_alloc | apply pw_below_drewN | apply below_drew1 | refine below_set ?_ GE491.out | refine below_set ?_ GE508.out | refine below_set ?_ GE517.out | refine below_set ?_ GE525.out) | exact HB.out)⟩
  · rw [if_neg c8] at H
    have c8b0 : (t507 == 0) = false := beq_eq_false_iff_ne.mpr c8
    have c8b1 : (t507 != 0) = true := bne_iff_ne.mpr c8
    replace H := Option.bind_eq_some_iff.mp H
    obtain ⟨t509, A1990, H⟩ := H
    replace H : (some t509) = some r := H
    have A199 := Aside0.mk A1990
    clear A1990
    obtain rfl := Option.some.inj H
    go_enter Tryd.func7, Tryd.ntmps7
    go_wp2_with (first | ((with_reducible refine gate_dst (N := 3) rfl ?_); (try (refine gate_guard (by rfl) ?_; dsimp only)); refine box_event ?hg (N := 3) ?hd (cs := #[.slice A0_0 l0_0.length c0_0]) (t := 24) ?hr ?_; (case hd => rfl); (case hg => rfl); (case hr => first | (go_simp; done) | (go_simp; rfl)); intro gb491 hg w200 hbox hb; have n0_ := Aside0.mk (below_step (by repeat (first | (with_reducible first | exact HB.out | apply below_alloc | apply pw_below_drewN | apply below_drew1) | exact HB.out)) hb); have n1_ := Aside0.mk (hbox); have n2_ := Aside0.mk ((by rw [hg]; exact (below_size (by repeat (first | (with_reducible first | exact HB.out | apply below_alloc | apply pw_below_drewN | apply below_drew1) | exact HB.out))) : w.heap.size ≤ gb491)); have n3_ := Aside0.mk ((by rw [hg]; exact (below_size (by repeat (first | (with_reducible first | exact HB.out | apply below_alloc | apply pw_below_drewN | apply below_drew1) | exact HB.out))) : w.heap.size ≤ gb491)); clear HB; have HB := n0_; have BK491 := n1_; have GW491 := n2_; have GE491 := n3_; clear n0_ n1_ n2_ n3_; clear hb hbox hg; have hcz201_0 : w200.cell? ⟨gb491, 0, none⟩ = some (.slice A0_0 l0_0.length c0_0) := (blk_cell BK491.out 0).trans rfl; have hfz201_0 := blk_frozen BK491.out 0) | ((with_reducible refine gate_callee (f := 8) rfl ?_); refine goesL_ (some 23) rfl rfl Tryd.func8 (by kernel_rfl) rfl #[.agg #[.slice A0_0 l0_0.length c0_0]] rfl (by (try simp only [List.map_toArray, List.map_cons, List.map_nil]); first | done | rfl | (simp only [List.length_drop, List.length_take]; rfl)) ?_; (with_reducible refine (graftwoodlaw10_Few.calls k _ _ l0_0 t492 _ ?side1 ?side2 A4.out).mono ?_); (case side1 => repeat (first | exact (Kd.C_below HR0_0.out HB.out) | (with_reducible refine Kd.C_alloc ?_ _) | (with_reducible refine Kd.C_drewN ?_ _) | (with_reducible refine Kd.C_drew ?_))); (case side2 => exact HC0_0.out); rintro e w202 ⟨v493, rfl, ho0, hb⟩; refine ⟨_, rfl, ?_⟩; have n0_ := Aside0.mk (Kd.R_lower ho0 (below_size (by repeat (first | (with_reducible first | exact HB.out | apply below_alloc | apply pw_below_drewN | apply below_drew1 | refine below_set ?_ GE491.out) | exact HB.out)))); have n1_ := Aside0.mk (blk_below (g := gb491) (o := .cells #[.slice A0_0 l0_0.length c0_0] 24 (0, 0)) (by (with_reducible repeat (first | refine blk_drewN ?_ _ | refine blk_drew ?_ | refine blk_alloc ?_ _)); exact BK491.out) hb); have n2_ := Aside0.mk (below_step (by repeat (first | (with_reducible first | exact HB.out | apply below_alloc | apply pw_below_drewN | apply below_drew1 | refine below_set ?_ GE491.out) | exact HB.out)) hb); clear BK491; clear HB; have HO494 := n0_; have BK491 := n1_; have HB := n2_; clear n0_ n1_ n2_; (try clear hb); (try clear hb2); (try clear hk); (try clear hi); (try clear ho0)) | ((with_reducible refine gate_callee (f := 9) rfl ?_); refine goesL_ (some 25) rfl rfl Tryd.func9 (by kernel_rfl) rfl #[.slice A1 l1.length c1] rfl (by (try simp only [List.map_toArray, List.map_cons, List.map_nil]); first | done | rfl | (simp only [List.length_drop, List.length_take]; rfl)) ?_; (with_reducible refine (graftwoodlaw05_Few.calls k _ _ l1 t495 _ ?side1 ?side2 A5.out).mono ?_); (case side1 => repeat (first | exact (Kd.C_below HR1.out HB.out) | (with_reducible refine Kd.C_alloc ?_ _) | (with_reducible refine Kd.C_drewN ?_ _) | (with_reducible refine Kd.C_drew ?_))); (case side2 => exact HC1.out); rintro e w203 ⟨v496, rfl, ho0, hb⟩; refine ⟨_, rfl, ?_⟩; have n0_ := Aside0.mk (Kd.R_elder' (by (with_reducible repeat (first | apply Kd.R_alloc | apply Kd.R_drewN | apply Kd.R_drew)); exact HO494.out) (Kd.R_base ho0) hb); have n1_ := Aside0.mk (Kd.R_lower (Kd.R_new' ho0 (Kd.R_lt (by (with_reducible repeat (first | apply Kd.R_alloc | apply Kd.R_drewN | apply Kd.R_drew)); exact HO494.out))) (below_size (by repeat (first | (with_reducible first | exact HB.out | apply below_alloc | apply pw_below_drewN | apply below_drew1 | refine below_set ?_ GE491.out) | exact HB.out)))); have n2_ := Aside0.mk (blk_below (g := gb491) (o := .cells #[.slice A0_0 l0_0.length c0_0] 24 (0, 0)) (by (with_reducible repeat (first | refine blk_drewN ?_ _ | refine blk_drew ?_ | refine blk_alloc ?_ _)); exact BK491.out) hb); have n3_ := Aside0.mk (below_step (by repeat (first | (with_reducible first | exact HB.out | apply below_alloc | apply pw_below_drewN | apply below_drew1 | refine below_set ?_ GE491.out) | exact HB.out)) hb); clear HO494; clear BK491; clear HB; have HO494 := n0_; have HO497 := n1_; have BK491 := n2_; have HB := n3_; clear n0_ n1_ n2_ n3_; (try clear hb); (try clear hb2); (try clear hk); (try clear hi); (try clear ho0)) | ((with_reducible refine gate_callee (f := 9) rfl ?_); refine goesL_ (some 27) rfl rfl Tryd.func9 (by kernel_rfl) rfl #[.slice A2 l2.length c2] rfl (by (try simp only [List.map_toArray, List.map_cons, List.map_nil]); first | done | rfl | (simp only [List.length_drop, List.length_take]; rfl)) ?_; (with_reducible refine (graftwoodlaw05_Few.calls k _ _ l2 t498 _ ?side1 ?side2 A6.out).mono ?_); (case side1 => repeat (first | exact (Kd.C_below HR2.out HB.out) | (with_reducible refine Kd.C_alloc ?_ _) | (with_reducible refine Kd.C_drewN ?_ _) | (with_reducible refine Kd.C_drew ?_))); (case side2 => exact HC2.out); rintro e w204 ⟨v499, rfl, ho0, hb⟩; refine ⟨_, rfl, ?_⟩; have n0_ := Aside0.mk (Kd.R_elder' (by (with_reducible repeat (first | apply Kd.R_alloc | apply Kd.R_drewN | apply Kd.R_drew)); exact HO494.out) (Kd.R_base ho0) hb); have n1_ := Aside0.mk (Kd.R_elder' (by (with_reducible repeat (first | apply Kd.R_alloc | apply Kd.R_drewN | apply Kd.R_drew)); exact HO497.out) (Kd.R_base ho0) hb); have n2_ := Aside0.mk (Kd.R_lower (Kd.R_new' (Kd.R_new' ho0 (Kd.R_lt (by (with_reducible repeat (first | apply Kd.R_alloc | apply Kd.R_drewN | apply Kd.R_drew)); exact HO494.out))) (Kd.R_lt (by (with_reducible repeat (first | apply Kd.R_alloc | apply Kd.R_drewN | apply Kd.R_drew)); exact HO497.out))) (below_size (by repeat (first | (with_reducible first | exact HB.out | apply below_alloc | apply pw_below_drewN | apply below_drew1 | refine below_set ?_ GE491.out) | exact HB.out)))); have n3_ := Aside0.mk (blk_below (g := gb491) (o := .cells #[.slice A0_0 l0_0.length c0_0] 24 (0, 0)) (by (with_reducible repeat (first | refine blk_drewN ?_ _ | refine blk_drew ?_ | refine blk_alloc ?_ _)); exact BK491.out) hb); have n4_ := Aside0.mk (below_step (by repeat (first | (with_reducible first | exact HB.out | apply below_alloc | apply pw_below_drewN | apply below_drew1 | refine below_set ?_ GE491.out) | exact HB.out)) hb); clear HO494; clear HO497; clear BK491; clear HB; have HO494 := n0_; have HO497 := n1_; have HO500 := n2_; have BK491 := n3_; have HB := n4_; clear n0_ n1_ n2_ n3_ n4_; (try clear hb); (try clear hb2); (try clear hk); (try clear hi); (try clear ho0); obtain ⟨Ao205, co205, eo205⟩ := Kd.R_slice HO494.out; subst eo205; have hcz206_0 : w204.cell? ⟨gb491, 0, none⟩ = some (.slice A0_0 l0_0.length c0_0) := (blk_cell BK491.out 0).trans rfl; have hfz206_0 := blk_frozen BK491.out 0) | ((with_reducible refine gate_store (t := 24) (p := 3) rfl ?_); refine store_event (t := 24) (p := 3) (v := ?vo_w207) (w1 := (w204.setCell ⟨gb491, 0, none⟩ (.slice Ao205 t492.length co205))) ?hg ?ho ?hn ?hr ?_; (case ho => rfl); (case hg => rfl); (case hn => rfl); (case hr => first | (go_simp; done) | (go_simp; rfl)); intro w207 hw; have n0_ : Aside0 (Kd.R k34 34 w207 w.heap.size (fun k_ => some k_ ≠ (v496 : Value).ownBlock ∧ some k_ ≠ (v499 : Value).ownBlock) (.slice Ao205 t492.length co205) t492) := ⟨(by rw [hw]; exact (by (with_reducible repeat (first | apply Kd.R_alloc | apply Kd.R_drewN | apply Kd.R_drew)); exact Kd.R_mono (Kd.R_far (p := ⟨gb491, 0, none⟩) (Kd.R_types HO494.out BK491.out (by decide)) (fun _ hk => hk.2) (.slice Ao205 t492.length co205)) (fun _ hk => ⟨hk.1.1.2, hk.1.2⟩)))⟩; have n1_ : Aside0 (Kd.R k34 34 w207 w.heap.size (fun k_ => some k_ ≠ (.slice Ao205 t492.length co205 : Value).ownBlock ∧ some k_ ≠ (v499 : Value).ownBlock) v496 t495) := ⟨(by rw [hw]; exact (by (with_reducible repeat (first | apply Kd.R_alloc | apply Kd.R_drewN | apply Kd.R_drew)); exact Kd.R_mono (Kd.R_far (p := ⟨gb491, 0, none⟩) (Kd.R_types HO497.out BK491.out (by decide)) (fun _ hk => hk.2) (.slice Ao205 t492.length co205)) (fun _ hk => ⟨hk.1.1.2, hk.1.2⟩)))⟩; have n2_ : Aside0 (Kd.R k34 34 w207 w.heap.size (fun k_ => some k_ ≠ (.slice Ao205 t492.length co205 : Value).ownBlock ∧ some k_ ≠ (v496 : Value).ownBlock) v499 t498) := ⟨(by rw [hw]; exact (by (with_reducible repeat (first | apply Kd.R_alloc | apply Kd.R_drewN | apply Kd.R_drew)); exact Kd.R_mono (Kd.R_far (p := ⟨gb491, 0, none⟩) (Kd.R_types HO500.out BK491.out (by decide)) (fun _ hk => hk.2) (.slice Ao205 t492.length co205)) (fun _ hk => ⟨hk.1.1.2, hk.1.2⟩)))⟩; have n3_ : Aside0 (w207.heap[gb491]? = some (.cells #[.slice Ao205 t492.length co205] 24 (0, 0))) := ⟨(by rw [hw]; exact (by (with_reducible repeat (first | refine blk_drewN ?_ _ | refine blk_drew ?_ | refine blk_alloc ?_ _)); refine blk_put (cs := #[.slice A0_0 l0_0.length c0_0]) ?_ 0 _ rfl; (with_reducible repeat (first | refine blk_drewN ?_ _ | refine blk_drew ?_ | refine blk_alloc ?_ _)); exact BK491.out))⟩; have n4_ : Aside0 (Below w.heap.size w w207) := ⟨(by rw [hw]; exact (by repeat (first | (with_reducible first | exact HB.out | apply below_alloc | apply pw_below_drewN | apply below_drew1 | refine below_set ?_ GE491.out) | exact HB.out)))⟩; clear hw; clear HO494; clear HO497; clear HO500; clear BK491; clear HB; have HO494 := n0_; have HO497 := n1_; have HO500 := n2_; have BK491 := n3_; have HB := n4_; clear n0_ n1_ n2_ n3_ n4_; have hcz208_0 : w207.cell? ⟨gb491, 0, none⟩ = some (.slice Ao205 t492.length co205) := (blk_cell BK491.out 0).trans rfl; have hfz208_0 := blk_frozen BK491.out 0; obtain ⟨Ao209, co209, eo209⟩ := Kd.R_slice HO497.out; subst eo209) | ((with_reducible refine gate_callee (f := 10) rfl ?_); refine goesL_ (some 31) rfl rfl Tryd.func10 (by kernel_rfl) rfl #[.agg #[.slice Ao205 t492.length co205], .slice Ao209 t495.length co209] rfl (by (try simp only [List.map_toArray, List.map_cons, List.map_nil]); first | done | rfl | (simp only [List.length_drop, List.length_take]; rfl)) ?_; (with_reducible refine (intern_All.calls k (fun k_ => some k_ = (.slice Ao205 t492.length co205 : Value).ownBlock) _ _ t492 _ _ t495 t501 t504 t507 _ ?side1 ?side2 ?side3 A7.out).mono ?_); (case side1 => exact Kd.R_V (Kd.R_tight rfl (Kd.R_types (HO494.out) BK491.out (by decide)))); (case side2 => repeat (first | exact (Kd.R_reads' HO497.out).2.2 | (with_reducible refine Kd.C_alloc ?_ _) | (with_reducible refine Kd.C_drewN ?_ _) | (with_reducible refine Kd.C_drew ?_))); (case side3 => exact (Kd.R_reads' HO497.out).2.1); rintro e w210 ⟨v502, v505, rfl, ho0, ho1, hb⟩; refine ⟨_, rfl, ?_⟩; have n0_ := Aside0.mk (Kd.R_below (by (with_reducible repeat (first | apply Kd.R_alloc | apply Kd.R_drewN | apply Kd.R_drew)); exact HO494.out) hb); have n1_ := Aside0.mk (Kd.R_below (by (with_reducible repeat (first | apply Kd.R_alloc | apply Kd.R_drewN | apply Kd.R_drew)); exact HO497.out) hb); have n2_ := Aside0.mk (Kd.R_below (by (with_reducible repeat (first | apply Kd.R_alloc | apply Kd.R_drewN | apply Kd.R_drew)); exact HO500.out) hb); have n3_ := Aside0.mk (Kd.R_lower (Kd.R_mono (ok' := fun k_ => True) ho0 (fun _ hk_ => trivial)) (below_size (by repeat (first | (with_reducible first | exact HB.out | apply below_alloc | apply pw_below_drewN | apply below_drew1 | refine below_set ?_ GE491.out) | exact HB.out)))); have n4_ := Aside0.mk (Kd.V_lower (Kd.V_mono (ok' := fun k_ => some k_ ≠ (v502 : Value).ownBlock ∧ some k_ ≠ (.slice Ao209 t495.length co209 : Value).ownBlock ∧ some k_ ≠ (v499 : Value).ownBlock ∧ k_ ≠ gb491) ho1 (fun k_ hk_ => ⟨hk_.2, Or.elim hk_.1 (fun hs_ => ((Kd.R_types (HO494.out) BK491.out (by decide)).1 k_ hs_.symm).1.1) (fun hn_ => (Kd.fresh' (Kd.R_lt (by (with_reducible repeat (first | apply Kd.R_alloc | apply Kd.R_drewN | apply Kd.R_drew)); exact HO497.out)) k_ hn_)), Or.elim hk_.1 (fun hs_ => ((Kd.R_types (HO494.out) BK491.out (by decide)).1 k_ hs_.symm).1.2) (fun hn_ => (Kd.fresh' (Kd.R_lt (by (with_reducible repeat (first | apply Kd.R_alloc | apply Kd.R_drewN | apply Kd.R_drew)); exact HO500.out)) k_ hn_)), Or.elim hk_.1 (fun hs_ => ((Kd.R_types (HO494.out) BK491.out (by decide)).1 k_ hs_.symm).2) (fun hn_ => (Kd.freshB (g := gb491) (o := .cells #[.slice Ao205 t492.length co205] 24 (0, 0)) (by (with_reducible repeat (first | refine blk_drewN ?_ _ | refine blk_drew ?_ | refine blk_alloc ?_ _)); exact BK491.out) k_ hn_))⟩)) (below_size (by repeat (first | (with_reducible first | exact HB.out | apply below_alloc | apply pw_below_drewN | apply below_drew1 | refine below_set ?_ GE491.out) | exact HB.out)))); have n5_ := Aside0.mk (blk_below (g := gb491) (o := .cells #[.slice Ao205 t492.length co205] 24 (0, 0)) (by (with_reducible repeat (first | refine blk_drewN ?_ _ | refine blk_drew ?_ | refine blk_alloc ?_ _)); exact BK491.out) hb); have n6_ := Aside0.mk (below_step (by repeat (first | (with_reducible first | exact HB.out | apply below_alloc | apply pw_below_drewN | apply below_drew1 | refine below_set ?_ GE491.out) | exact HB.out)) hb); clear HO494; clear HO497; clear HO500; clear BK491; clear HB; have HO494 := n0_; have HO497 := n1_; have HO500 := n2_; have HO503 := n3_; have HO506 := n4_; have BK491 := n5_; have HB := n6_; clear n0_ n1_ n2_ n3_ n4_ n5_ n6_; (try clear hb); (try clear hb2); (try clear hk); (try clear hi); (try clear ho0); (try clear ho1)) | ((with_reducible refine gate_dst (N := 8) rfl ?_); (try (refine gate_guard (by rfl) ?_; dsimp only)); refine box_event ?hg (N := 8) ?hd (cs := #[.slice none 0 0]) (t := 24) ?hr ?_; (case hd => rfl); (case hg => rfl); (case hr => first | (go_simp; done) | (go_simp; rfl)); intro gb508 hg w211 hbox hb; have n0_ := Aside0.mk (Kd.R_below (by (with_reducible repeat (first | apply Kd.R_alloc | apply Kd.R_drewN | apply Kd.R_drew)); exact HO494.out) hb); have n1_ := Aside0.mk (Kd.R_below (by (with_reducible repeat (first | apply Kd.R_alloc | apply Kd.R_drewN | apply Kd.R_drew)); exact HO497.out) hb); have n2_ := Aside0.mk (Kd.R_below (by (with_reducible repeat (first | apply Kd.R_alloc | apply Kd.R_drewN | apply Kd.R_drew)); exact HO500.out) hb); have n3_ := Aside0.mk (Kd.R_below (by (with_reducible repeat (first | apply Kd.R_alloc | apply Kd.R_drewN | apply Kd.R_drew)); exact HO503.out) hb); have n4_ := Aside0.mk (Kd.V_below (Kd.V_elderB (by (with_reducible repeat (first | apply Kd.V_alloc | apply Kd.V_drewN | apply Kd.V_drew)); exact HO506.out) gb508 (Nat.le_of_eq hg.symm)) hb); have n5_ := Aside0.mk (blk_below (g := gb491) (o := .cells #[.slice Ao205 t492.length co205] 24 (0, 0)) (by (with_reducible repeat (first | refine blk_drewN ?_ _ | refine blk_drew ?_ | refine blk_alloc ?_ _)); exact BK491.out) hb); have n6_ := Aside0.mk (below_step (by repeat (first | (with_reducible first | exact HB.out | apply below_alloc | apply pw_below_drewN | apply below_drew1 | refine below_set ?_ GE491.out) | exact HB.out)) hb); have n7_ := Aside0.mk (hbox); have n8_ := Aside0.mk ((by rw [hg]; exact (below_size (by repeat (first | (with_reducible first | exact HB.out | apply below_alloc | apply pw_below_drewN | apply below_drew1 | refine below_set ?_ GE491.out) | exact HB.out))) : w.heap.size ≤ gb508)); have n9_ := Aside0.mk ((by rw [hg]; exact (below_size (by repeat (first | (with_reducible first | exact HB.out | apply below_alloc | apply pw_below_drewN | apply below_drew1 | refine below_set ?_ GE491.out) | exact HB.out))) : w.heap.size ≤ gb508)); have n10_ := Aside0.mk ((by rw [hg]; exact Nat.ne_of_lt (blk_lt (g := gb491) (o := .cells #[.slice Ao205 t492.length co205] 24 (0, 0)) (by (with_reducible repeat (first | refine blk_drewN ?_ _ | refine blk_drew ?_ | refine blk_alloc ?_ _)); exact BK491.out)) : gb491 ≠ gb508)); have n11_ := Aside0.mk ((by rw [hg]; exact Nat.ne_of_gt (blk_lt (g := gb491) (o := .cells #[.slice Ao205 t492.length co205] 24 (0, 0)) (by (with_reducible repeat (first | refine blk_drewN ?_ _ | refine blk_drew ?_ | refine blk_alloc ?_ _)); exact BK491.out)) : gb508 ≠ gb491)); clear HO494; clear HO497; clear HO500; clear HO503; clear HO506; clear BK491; clear HB; have HO494 := n0_; have HO497 := n1_; have HO500 := n2_; have HO503 := n3_; have HO506 := n4_; have BK491 := n5_; have HB := n6_; have BK508 := n7_; have GW508 := n8_; have GE508 := n9_; have NB491_508 := n10_; have NB508_491 := n11_; clear n0_ n1_ n2_ n3_ n4_ n5_ n6_ n7_ n8_ n9_ n10_ n11_; clear hb hbox hg; obtain ⟨Ao212, co212, eo212⟩ := Kd.V_slice HO506.out; subst eo212; have hnb213 := NB508_491.out; have hnc213 := NB491_508.out; have hcz214_0 : w211.cell? ⟨gb508, 0, none⟩ = some (.slice none 0 0) := (blk_cell BK508.out 0).trans rfl; have hfz214_0 := blk_frozen BK508.out 0) | ((with_reducible refine gate_callee (f := 14) rfl ?_); refine goesL_ (some 37) rfl rfl Tryd.func14 (by kernel_rfl) rfl #[] rfl (by (try simp only [List.map_toArray, List.map_cons, List.map_nil]); first | done | rfl | (simp only [List.length_drop, List.length_take]; rfl)) ?_; (with_reducible refine (graftwoodlaw10_awake.calls k  t509 _ A199.out).mono ?_); rintro e w215 ⟨rfl, hb⟩; refine ⟨_, rfl, ?_⟩; have n0_ := Aside0.mk (Kd.R_below (by (with_reducible repeat (first | apply Kd.R_alloc | apply Kd.R_drewN | apply Kd.R_drew)); exact (Kd.R_mono (Kd.R_far (p := ⟨gb508, 0, none⟩) (Kd.R_types HO494.out BK508.out (by decide)) (fun _ hk => hk.2) (.slice Ao212 t504.length co212)) (fun _ h_ => h_.1))) hb); have n1_ := Aside0.mk (Kd.R_below (by (with_reducible repeat (first | apply Kd.R_alloc | apply Kd.R_drewN | apply Kd.R_drew)); exact (Kd.R_mono (Kd.R_far (p := ⟨gb508, 0, none⟩) (Kd.R_types HO497.out BK508.out (by decide)) (fun _ hk => hk.2) (.slice Ao212 t504.length co212)) (fun _ h_ => h_.1))) hb); have n2_ := Aside0.mk (Kd.R_below (by (with_reducible repeat (first | apply Kd.R_alloc | apply Kd.R_drewN | apply Kd.R_drew)); exact (Kd.R_mono (Kd.R_far (p := ⟨gb508, 0, none⟩) (Kd.R_types HO500.out BK508.out (by decide)) (fun _ hk => hk.2) (.slice Ao212 t504.length co212)) (fun _ h_ => h_.1))) hb); have n3_ := Aside0.mk (Kd.R_below (by (with_reducible repeat (first | apply Kd.R_alloc | apply Kd.R_drewN | apply Kd.R_drew)); exact (Kd.R_mono (Kd.R_far (p := ⟨gb508, 0, none⟩) (Kd.R_types HO503.out BK508.out (by decide)) (fun _ hk => hk.2) (.slice Ao212 t504.length co212)) (fun _ h_ => h_.1))) hb); have n4_ := Aside0.mk (Kd.V_below (by (with_reducible repeat (first | apply Kd.V_alloc | apply Kd.V_drewN | apply Kd.V_drew)); exact (Kd.V_mono (Kd.V_far (p := ⟨gb508, 0, none⟩) (Kd.V_mono HO506.out (fun k_ hk => (⟨hk, hk.2⟩ : _ ∧ k_ ≠ gb508))) (fun _ hk => hk.2) (.slice Ao212 t504.length co212)) (fun _ h_ => h_.1))) hb); have n5_ := Aside0.mk (blk_below (g := gb491) (o := .cells #[.slice Ao205 t492.length co205] 24 (0, 0)) (by (with_reducible repeat (first | refine blk_drewN ?_ _ | refine blk_drew ?_ | refine blk_alloc ?_ _)); refine blk_far ?_ NB491_508.out _; (with_reducible repeat (first | refine blk_drewN ?_ _ | refine blk_drew ?_ | refine blk_alloc ?_ _)); exact BK491.out) hb); have n6_ := Aside0.mk (blk_below (g := gb508) (o := .cells #[.slice Ao212 t504.length co212] 24 (0, 0)) (by (with_reducible repeat (first | refine blk_drewN ?_ _ | refine blk_drew ?_ | refine blk_alloc ?_ _)); refine blk_put (cs := #[.slice none 0 0]) ?_ 0 _ rfl; (with_reducible repeat (first | refine blk_drewN ?_ _ | refine blk_drew ?_ | refine blk_alloc ?_ _)); exact BK508.out) hb); have n7_ := Aside0.mk (below_step (by repeat (first | (with_reducible first | exact HB.out | apply below_alloc | apply pw_below_drewN | apply below_drew1 | refine below_set ?_ GE491.out | refine below_set ?_ GE508.out) | exact HB.out)) hb); clear HO494; clear HO497; clear HO500; clear HO503; clear HO506; clear BK491; clear BK508; clear HB; have HO494 := n0_; have HO497 := n1_; have HO500 := n2_; have HO503 := n3_; have HO506 := n4_; have BK491 := n5_; have BK508 := n6_; have HB := n7_; clear n0_ n1_ n2_ n3_ n4_ n5_ n6_ n7_; (try clear hb); (try clear hb2); (try clear hk); (try clear hi)))
    go_ret
    exact ⟨by first | rfl | (simp [errW_none, errW_some] <;> rfl) | (simp [*, errW_none, errW_some] <;> rfl), by repeat (first | (with_reducible first | exact HB.out | apply below_alloc | apply pw_below_drewN | apply below_drew1 | refine below_set ?_ GE491.out | refine below_set ?_ GE508.out) | exact HB.out)⟩

end Go.Proofs.YtjneghnknfhboaaDoor.P
