-- Written by this project's own program (wip/tools/hp.py), driving the kit's print; hand texts among it. Not trusted: Lean checks it.
-- half the indentation
import Derived.Test.YtjadpeahoaogcaaDoorP0
import Derived.Test.YtjadpeahoaogcaaDoorP14
import Derived.Test.YtjadpeahoaogcaaDoorP15
import Derived.Test.YtjadpeahoaogcaaDoorP24
import Derived.Test.YtjadpeahoaogcaaDoorP25
namespace Go.Proofs.YtjadpeahoaogcaaDoor.P
open Go.RowKit Go.Proofs.YtjadpeahoaogcaaDoorW.PrintWords Go.Proofs.YtjadpeahoaogcaaDoorW.PrintLast Go.Proofs.YtjadpeahoaogcaaDoorW.PrintMore
attribute [local go_sem] max2_int min2_int max_two min_two max_three min_three max_four min_four   -- for this text's walks alone
set_option linter.unusedVariables false
set_option linter.unusedSimpArgs false

/-! ### graftwoodlaw03_VersionCores: function 9 -/
mutual
def graftwoodlaw03_VersionCores.j0 : Nat → Int → Int → Bool → ByteArray → ByteArray → ByteArray → List ByteArray → ByteArray → ByteArray → ByteArray → List ByteArray → Option (Bool)
 | 0, _, _, _, _, _, _, _, _, _, _, _ => none
 | k + 1, x9, x10, x40, x511000, x511001, x511002, x511003, x512000, x512001, x512002, x512003 => if x40 = true then ((graftwoodlaw03_awake.f k).bind fun t530 => (some t530)) else (graftwoodlaw03_VersionCores.l0 k x9 x10 (([x511000, x511001, x511002] : List ByteArray)) (([x512000, x512001, x512002] : List ByteArray)) 0 x511000 x511001 x511002 x511003 x512000 x512001 x512002 x512003)
def graftwoodlaw03_VersionCores.l0 : Nat → Int → Int → List ByteArray → List ByteArray → Int → ByteArray → ByteArray → ByteArray → List ByteArray → ByteArray → ByteArray → ByteArray → List ByteArray → Option (Bool)
 | 0, _, _, _, _, _, _, _, _, _, _, _, _, _ => none
 | k + 1, x9, x10, x11, x12, x13, x511000, x511001, x511002, x511003, x512000, x512001, x512002, x512003 => if x13 < 3 then (if 0 ≤ x13 then (if x13 < (x11.length : Int) then (if x13 < (x12.length : Int) then (if (rdOf ByteArray.empty x11 x13).toList = (rdOf ByteArray.empty x12 x13).toList then (graftwoodlaw03_VersionCores.l0 k x9 x10 x11 x12 (wrap64 (x13 + 1)) x511000 x511001 x511002 x511003 x512000 x512001 x512002 x512003) else (if ((rdOf ByteArray.empty x11 x13).size : Int) < ((rdOf ByteArray.empty x12 x13).size : Int) then (if x10 = 0 then (if ((decide (x9 < 0)) == true) = true then (if x9 = 0 then (some false) else ((graftwoodlaw03_awake.f k).bind fun t541 => (some t541))) else (some false)) else (some false)) else (if ((rdOf ByteArray.empty x11 x13).size : Int) = ((rdOf ByteArray.empty x12 x13).size : Int) then (if x10 = 0 then (if ((decide (x9 < 0)) == (Op.bytesLess ((rdOf ByteArray.empty x11 x13).toList) ((rdOf ByteArray.empty x12 x13).toList))) = true then (if x9 = 0 then (some false) else ((graftwoodlaw03_awake.f k).bind fun t546 => (some t546))) else (some false)) else (some false)) else (if x10 = 0 then (if ((decide (x9 < 0)) == false) = true then (if x9 = 0 then (some false) else ((graftwoodlaw03_awake.f k).bind fun t547 => (some t547))) else (some false)) else (some false))))) else (none)) else (none)) else (none)) else (if x10 = 0 then (if (x511003.length : Int) > 0 then (if (x511003.length : Int) = 0 then ((graftwoodlaw03_awake.f k).bind fun t548 => (some t548)) else (if (x512003.length : Int) > 0 then ((graftwoodlaw03_awake.f k).bind fun t549 => (some t549)) else (if x9 = (-1) then ((graftwoodlaw03_awake.f k).bind fun t550 => (some t550)) else (some false)))) else (if (x512003.length : Int) = 0 then (if (x511003.length : Int) = 0 then ((graftwoodlaw03_awake.f k).bind fun t551 => (some t551)) else (if (x512003.length : Int) > 0 then ((graftwoodlaw03_awake.f k).bind fun t552 => (some t552)) else (if x9 = (-1) then ((graftwoodlaw03_awake.f k).bind fun t553 => (some t553)) else (some false)))) else (if x9 = 1 then (if (x511003.length : Int) = 0 then ((graftwoodlaw03_awake.f k).bind fun t554 => (some t554)) else (if (x512003.length : Int) > 0 then ((graftwoodlaw03_awake.f k).bind fun t555 => (some t555)) else (if x9 = (-1) then ((graftwoodlaw03_awake.f k).bind fun t556 => (some t556)) else (some false)))) else (some false)))) else (some false))
end
def graftwoodlaw03_VersionCores.f (k : Nat) (a0_0 : ByteArray) (a0_1 : ByteArray) (a0_2 : ByteArray) (l0_3 : List ByteArray) (a1_0 : ByteArray) (a1_1 : ByteArray) (a1_2 : ByteArray) (l1_3 : List ByteArray) : Option (Bool) := (graftwoodlaw03_Few.f k a0_0 a0_1 a0_2 l0_3).bind fun bt512 => ((graftwoodlaw03_Few.f k a1_0 a1_1 a1_2 l1_3).bind fun bt518 => ((version_Join.f k bt512.1 bt512.2.1 bt512.2.2.1 bt512.2.2.2).bind fun bt524 => ((version_Join.f k bt518.1 bt518.2.1 bt518.2.2.1 bt518.2.2.2).bind fun bt526 => ((version_Cmp.f k bt524.1 bt526.1).bind fun bt528 => (if bt524.2 = 0 then (graftwoodlaw03_VersionCores.j0 k bt528.1 bt528.2 (bt526.2 != 0) bt512.1 bt512.2.1 bt512.2.2.1 bt512.2.2.2 bt518.1 bt518.2.1 bt518.2.2.1 bt518.2.2.2) else (graftwoodlaw03_VersionCores.j0 k bt528.1 bt528.2 true bt512.1 bt512.2.1 bt512.2.2.1 bt512.2.2.2 bt518.1 bt518.2.1 bt518.2.2.1 bt518.2.2.2))))))
theorem graftwoodlaw03_VersionCores.mono_l : ∀ k, (∀ y0 y1 y2 y3 y4 y5 y6 y7 y8 y9 y10, LeO (graftwoodlaw03_VersionCores.j0 k y0 y1 y2 y3 y4 y5 y6 y7 y8 y9 y10) (graftwoodlaw03_VersionCores.j0 (k + 1) y0 y1 y2 y3 y4 y5 y6 y7 y8 y9 y10)) ∧ (∀ y0 y1 y2 y3 y4 y5 y6 y7 y8 y9 y10 y11 y12, LeO (graftwoodlaw03_VersionCores.l0 k y0 y1 y2 y3 y4 y5 y6 y7 y8 y9 y10 y11 y12) (graftwoodlaw03_VersionCores.l0 (k + 1) y0 y1 y2 y3 y4 y5 y6 y7 y8 y9 y10 y11 y12))
 | 0 => ⟨fun _ _ _ _ _ _ _ _ _ _ _ r h => by simp [graftwoodlaw03_VersionCores.j0] at h, fun _ _ _ _ _ _ _ _ _ _ _ _ _ r h => by simp [graftwoodlaw03_VersionCores.l0] at h⟩
 | k + 1 => by
  obtain ⟨ih0, ih1⟩ := graftwoodlaw03_VersionCores.mono_l k
  refine ⟨?_, ?_⟩
  ·intro y0 y1 y2 y3 y4 y5 y6 y7 y8 y9 y10
   unfold graftwoodlaw03_VersionCores.j0
   repeat' first
   | (with_reducible exact ih0 _ _ _ _ _ _ _ _ _ _ _)
   | (with_reducible exact ih1 _ _ _ _ _ _ _ _ _ _ _ _ _)
   | (with_reducible exact graftwoodlaw03_Few.mono _ _ _ _ _)
   | (with_reducible exact graftwoodlaw03_awake.mono _)
   | (with_reducible exact version_Cmp.mono _ _ _)
   | (with_reducible exact version_Join.mono _ _ _ _ _)
   | (with_reducible exact LeO.refl _)
   | (with_reducible exact LeO.none _)
   | (with_reducible refine LeO.ite ?_ ?_)
   | (with_reducible refine LeO.bind ?_ (fun _ => ?_))
   | exact ih0 _ _ _ _ _ _ _ _ _ _ _
   | exact ih1 _ _ _ _ _ _ _ _ _ _ _ _ _
   | exact graftwoodlaw03_Few.mono _ _ _ _ _
   | exact graftwoodlaw03_awake.mono _
   | exact version_Cmp.mono _ _ _
   | exact version_Join.mono _ _ _ _ _
   | exact LeO.none _
   | refine LeO.ite ?_ ?_
   | refine LeO.bind ?_ (fun _ => ?_)
  ·intro y0 y1 y2 y3 y4 y5 y6 y7 y8 y9 y10 y11 y12
   unfold graftwoodlaw03_VersionCores.l0
   repeat' first
   | (with_reducible exact ih0 _ _ _ _ _ _ _ _ _ _ _)
   | (with_reducible exact ih1 _ _ _ _ _ _ _ _ _ _ _ _ _)
   | (with_reducible exact graftwoodlaw03_Few.mono _ _ _ _ _)
   | (with_reducible exact graftwoodlaw03_awake.mono _)
   | (with_reducible exact version_Cmp.mono _ _ _)
   | (with_reducible exact version_Join.mono _ _ _ _ _)
   | (with_reducible exact LeO.refl _)
   | (with_reducible exact LeO.none _)
   | (with_reducible refine LeO.ite ?_ ?_)
   | (with_reducible refine LeO.bind ?_ (fun _ => ?_))
   | exact ih0 _ _ _ _ _ _ _ _ _ _ _
   | exact ih1 _ _ _ _ _ _ _ _ _ _ _ _ _
   | exact graftwoodlaw03_Few.mono _ _ _ _ _
   | exact graftwoodlaw03_awake.mono _
   | exact version_Cmp.mono _ _ _
   | exact version_Join.mono _ _ _ _ _
   | exact LeO.none _
   | refine LeO.ite ?_ ?_
   | refine LeO.bind ?_ (fun _ => ?_)
theorem graftwoodlaw03_VersionCores.mono : ∀ a0 a1 a2 a3 a4 a5 a6 a7 k, LeO (graftwoodlaw03_VersionCores.f k a0 a1 a2 a3 a4 a5 a6 a7) (graftwoodlaw03_VersionCores.f (k + 1) a0 a1 a2 a3 a4 a5 a6 a7) := by
 intro a0 a1 a2 a3 a4 a5 a6 a7 k
 obtain ⟨ih0, ih1⟩ := graftwoodlaw03_VersionCores.mono_l k
 unfold graftwoodlaw03_VersionCores.f
 repeat' first
   | (with_reducible exact ih0 _ _ _ _ _ _ _ _ _ _ _)
   | (with_reducible exact ih1 _ _ _ _ _ _ _ _ _ _ _ _ _)
   | (with_reducible exact graftwoodlaw03_Few.mono _ _ _ _ _)
   | (with_reducible exact graftwoodlaw03_awake.mono _)
   | (with_reducible exact version_Cmp.mono _ _ _)
   | (with_reducible exact version_Join.mono _ _ _ _ _)
   | (with_reducible exact LeO.refl _)
   | (with_reducible exact LeO.none _)
   | (with_reducible refine LeO.ite ?_ ?_)
   | (with_reducible refine LeO.bind ?_ (fun _ => ?_))
   | exact ih0 _ _ _ _ _ _ _ _ _ _ _
   | exact ih1 _ _ _ _ _ _ _ _ _ _ _ _ _
   | exact graftwoodlaw03_Few.mono _ _ _ _ _
   | exact graftwoodlaw03_awake.mono _
   | exact version_Cmp.mono _ _ _
   | exact version_Join.mono _ _ _ _ _
   | exact LeO.none _
   | refine LeO.ite ?_ ?_
   | refine LeO.bind ?_ (fun _ => ?_)
def graftwoodlaw03_VersionCores.T7 : Bool × List (List Nat × List Nat) := (true, [([], []), ([0], [0]), ([], []), ([2], [2]), ([], []), ([4], [4]), ([1, 3, 5], [1, 3, 5]), ([], []), ([7], [7]), ([], []), ([9], [9]), ([], []), ([11], [11]), ([8, 10, 12], [8, 10, 12]), ([6, 0, 1, 2, 3, 4, 5, 6], [6]), ([13, 14, 0, 1, 2, 3, 4, 5, 6, 7, 8, 9, 10, 11, 12, 13, 14], [13])])
def graftwoodlaw03_VersionCores.B7 : List Nat := [0, 1, 0, 4, 0, 16, 63, 0, 128, 0, 512, 0, 2048, 8064, 127, 32767]
theorem graftwoodlaw03_VersionCores.tab7 : rtab .any (opsOf Tryd.f9 7) = graftwoodlaw03_VersionCores.T7 := by kernel_rfl
theorem graftwoodlaw03_VersionCores.bits7 : waitsOk graftwoodlaw03_VersionCores.T7.2 graftwoodlaw03_VersionCores.B7 = true := by kernel_rfl
def graftwoodlaw03_VersionCores.T11 : Bool × List (List Nat × List Nat) := (true, [([], []), ([], []), ([0, 1], [0, 1]), ([2], [2]), ([], []), ([], []), ([4, 5], [4, 5]), ([6], [6]), ([3, 7], [3, 7])])
def graftwoodlaw03_VersionCores.B11 : List Nat := [0, 0, 3, 7, 0, 0, 48, 112, 255]
theorem graftwoodlaw03_VersionCores.tab11 : rtab .any (opsOf Tryd.f9 11) = graftwoodlaw03_VersionCores.T11 := by kernel_rfl
theorem graftwoodlaw03_VersionCores.bits11 : waitsOk graftwoodlaw03_VersionCores.T11.2 graftwoodlaw03_VersionCores.B11 = true := by kernel_rfl
def graftwoodlaw03_VersionCores.T12 : Bool × List (List Nat × List Nat) := (true, [([], []), ([], []), ([0, 1], [0, 1]), ([2], [2]), ([3], [3]), ([], []), ([], []), ([5, 6], [5, 6]), ([7], [7]), ([8], [8]), ([4, 9], [4, 9]), ([10], [10]), ([11], [11]), ([11], [11]), ([12, 13, 11], [11, 12, 13]), ([14, 11], [11, 14]), ([15, 11], [11, 15]), ([11], [11]), ([11], [11]), ([17, 18, 11], [11, 17, 18]), ([19, 11], [11, 19]), ([20, 11], [11, 20]), ([16, 21, 11], [11, 16, 21]), ([22, 11, 11], [11, 22]), ([23], [23]), ([23], [23]), ([24, 25, 23], [23, 24, 25]), ([26, 23], [23, 26]), ([23], [23]), ([23], [23]), ([28, 29, 23], [23, 28, 29]), ([30, 23], [23, 30]), ([27, 31, 23], [23, 27, 31]), ([23, 32, 11], [11, 23, 32]), ([11, 33], [11, 33]), ([34, 23, 0, 1, 2, 3, 4, 5, 6, 7, 8, 9, 10, 11, 12, 13, 14, 15, 16, 17, 18, 19, 20, 21, 22, 23, 24, 25, 26, 27, 28, 29, 30, 31, 32, 33, 34], [34])])
def graftwoodlaw03_VersionCores.B12 : List Nat := [0, 0, 3, 7, 15, 0, 0, 96, 224, 480, 1023, 2047, 4095, 4095, 16383, 32767, 65535, 4095, 4095, 397311, 921599, 1970175, 4194303, 8388607, 16777215, 16777215, 67108863, 134217727, 16777215, 16777215, 822083583, 1895825407, 4294967295, 8589934591, 17179869183, 34359738367]
theorem graftwoodlaw03_VersionCores.tab12 : rtab .any (opsOf Tryd.f9 12) = graftwoodlaw03_VersionCores.T12 := by kernel_rfl
theorem graftwoodlaw03_VersionCores.bits12 : waitsOk graftwoodlaw03_VersionCores.T12.2 graftwoodlaw03_VersionCores.B12 = true := by kernel_rfl
set_option maxHeartbeats 8000000 in
set_option maxRecDepth 100000 in
theorem graftwoodlaw03_VersionCores.calls (k : Nat) (a0_0 : ByteArray) (a0_1 : ByteArray) (a0_2 : ByteArray) (A0_3 : Option Addr) (c0_3 : Nat) (l0_3 : List ByteArray) (a1_0 : ByteArray) (a1_1 : ByteArray) (a1_2 : ByteArray) (A1_3 : Option Addr) (c1_3 : Nat) (l1_3 : List ByteArray) (r : Bool) (w : World) (hr0_3 : Kd.C Kd.string w A0_3 l0_3.length l0_3) (hc0_3 : l0_3.length ≤ c0_3) (hr1_3 : Kd.C Kd.string w A1_3 l1_3.length l1_3) (hc1_3 : l1_3.length ≤ c1_3) (h : graftwoodlaw03_VersionCores.f k a0_0 a0_1 a0_2 l0_3 a1_0 a1_1 a1_2 l1_3 = some r) (hR_ : r = true) :
  Calls Tryd.prog 9 #[.agg #[.string a0_0, .string a0_1, .string a0_2, .slice A0_3 l0_3.length c0_3], .agg #[.string a1_0, .string a1_1, .string a1_2, .slice A1_3 l1_3.length c1_3]] w fun e w' => e = .returned (.bool r) ∧ Below w.heap.size w w' := by
 have hu36 := Tryd.underlying36
 have HR0_3 := Aside0.mk hr0_3
 have HC0_3 := Aside0.mk hc0_3
 clear hr0_3 hc0_3
 have HR1_3 := Aside0.mk hr1_3
 have HC1_3 := Aside0.mk hc1_3
 clear hr1_3 hc1_3
 have HB := Aside0.mk (Below.refl w.heap.size w)
 have H : ((graftwoodlaw03_Few.f k a0_0 a0_1 a0_2 l0_3).bind fun bt512 => ((graftwoodlaw03_Few.f k a1_0 a1_1 a1_2 l1_3).bind fun bt518 => ((version_Join.f k bt512.1 bt512.2.1 bt512.2.2.1 bt512.2.2.2).bind fun bt524 => ((version_Join.f k bt518.1 bt518.2.1 bt518.2.2.1 bt518.2.2.2).bind fun bt526 => ((version_Cmp.f k bt524.1 bt526.1).bind fun bt528 => (if bt524.2 = 0 then (graftwoodlaw03_VersionCores.j0 k bt528.1 bt528.2 (bt526.2 != 0) bt512.1 bt512.2.1 bt512.2.2.1 bt512.2.2.2 bt518.1 bt518.2.1 bt518.2.2.1 bt518.2.2.2) else (graftwoodlaw03_VersionCores.j0 k bt528.1 bt528.2 true bt512.1 bt512.2.1 bt512.2.2.1 bt512.2.2.2 bt518.1 bt518.2.1 bt518.2.2.1 bt518.2.2.2))))))) = some r := h
 clear h
 replace H := Option.bind_eq_some_iff.mp H
 obtain ⟨⟨t512, t513, t514, t515⟩, A30, H⟩ := H
 replace H : ((graftwoodlaw03_Few.f k a1_0 a1_1 a1_2 l1_3).bind fun bt518 => ((version_Join.f k t512 t513 t514 t515).bind fun bt524 => ((version_Join.f k bt518.1 bt518.2.1 bt518.2.2.1 bt518.2.2.2).bind fun bt526 => ((version_Cmp.f k bt524.1 bt526.1).bind fun bt528 => (if bt524.2 = 0 then (graftwoodlaw03_VersionCores.j0 k bt528.1 bt528.2 (bt526.2 != 0) t512 t513 t514 t515 bt518.1 bt518.2.1 bt518.2.2.1 bt518.2.2.2) else (graftwoodlaw03_VersionCores.j0 k bt528.1 bt528.2 true t512 t513 t514 t515 bt518.1 bt518.2.1 bt518.2.2.1 bt518.2.2.2)))))) = some r := H
 have A3 := Aside0.mk A30
 clear A30
 replace H := Option.bind_eq_some_iff.mp H
 obtain ⟨⟨t518, t519, t520, t521⟩, A40, H⟩ := H
 replace H : ((version_Join.f k t512 t513 t514 t515).bind fun bt524 => ((version_Join.f k t518 t519 t520 t521).bind fun bt526 => ((version_Cmp.f k bt524.1 bt526.1).bind fun bt528 => (if bt524.2 = 0 then (graftwoodlaw03_VersionCores.j0 k bt528.1 bt528.2 (bt526.2 != 0) t512 t513 t514 t515 t518 t519 t520 t521) else (graftwoodlaw03_VersionCores.j0 k bt528.1 bt528.2 true t512 t513 t514 t515 t518 t519 t520 t521))))) = some r := H
 have A4 := Aside0.mk A40
 clear A40
 replace H := Option.bind_eq_some_iff.mp H
 obtain ⟨⟨t524, t525⟩, A50, H⟩ := H
 replace H : ((version_Join.f k t518 t519 t520 t521).bind fun bt526 => ((version_Cmp.f k t524 bt526.1).bind fun bt528 => (if t525 = 0 then (graftwoodlaw03_VersionCores.j0 k bt528.1 bt528.2 (bt526.2 != 0) t512 t513 t514 t515 t518 t519 t520 t521) else (graftwoodlaw03_VersionCores.j0 k bt528.1 bt528.2 true t512 t513 t514 t515 t518 t519 t520 t521)))) = some r := H
 have A5 := Aside0.mk A50
 clear A50
 replace H := Option.bind_eq_some_iff.mp H
 obtain ⟨⟨t526, t527⟩, A60, H⟩ := H
 replace H : ((version_Cmp.f k t524 t526).bind fun bt528 => (if t525 = 0 then (graftwoodlaw03_VersionCores.j0 k bt528.1 bt528.2 (t527 != 0) t512 t513 t514 t515 t518 t519 t520 t521) else (graftwoodlaw03_VersionCores.j0 k bt528.1 bt528.2 true t512 t513 t514 t515 t518 t519 t520 t521))) = some r := H
 have A6 := Aside0.mk A60
 clear A60
 replace H := Option.bind_eq_some_iff.mp H
 obtain ⟨⟨t528, t529⟩, A70, H⟩ := H
 replace H : (if t525 = 0 then (graftwoodlaw03_VersionCores.j0 k t528 t529 (t527 != 0) t512 t513 t514 t515 t518 t519 t520 t521) else (graftwoodlaw03_VersionCores.j0 k t528 t529 true t512 t513 t514 t515 t518 t519 t520 t521)) = some r := H
 have A7 := Aside0.mk A70
 clear A70
 have HC8 := Aside0.mk H
 clear H
 go_enter Tryd.func9, Tryd.ntmps9
 try go_wp2_with (first | ((with_reducible refine gate_dst (N := 2) rfl ?_); (try (refine gate_guard (by rfl) ?_; dsimp only)); refine box_event ?hg (N := 2) ?hd (cs := #[.string a0_0, .string a0_1, .string a0_2, .slice A0_3 l0_3.length c0_3]) (t := 36) ?hr ?_; (case hd => rfl); (case hg => rfl); (case hr => first | (go_simp; done) | (go_simp; rfl)); intro gb510 hg w9 hbox hb; have n0_ := Aside0.mk (below_step (by repeat (first | (with_reducible first | exact HB.out | apply below_alloc | apply pw_below_drewN | apply below_drew1) | exact HB.out)) hb); have n1_ := Aside0.mk (hbox); have n2_ := Aside0.mk ((by rw [hg]; exact (below_size (by repeat (first | (with_reducible first | exact HB.out | apply below_alloc | apply pw_below_drewN | apply below_drew1) | exact HB.out))) : w.heap.size ≤ gb510)); have n3_ := Aside0.mk ((by rw [hg]; exact (below_size (by repeat (first | (with_reducible first | exact HB.out | apply below_alloc | apply pw_below_drewN | apply below_drew1) | exact HB.out))) : w.heap.size ≤ gb510)); clear HB; have HB := n0_; have BK510 := n1_; have GW510 := n2_; have GE510 := n3_; clear n0_ n1_ n2_ n3_; clear hb hbox hg) | ((with_reducible refine gate_dst (N := 3) rfl ?_); (try (refine gate_guard (by rfl) ?_; dsimp only)); refine box_event ?hg (N := 3) ?hd (cs := #[.string a1_0, .string a1_1, .string a1_2, .slice A1_3 l1_3.length c1_3]) (t := 36) ?hr ?_; (case hd => rfl); (case hg => rfl); (case hr => first | (go_simp; done) | (go_simp; rfl)); intro gb511 hg w10 hbox hb; have n0_ := Aside0.mk (blk_below (g := gb510) (o := .cells #[.string a0_0, .string a0_1, .string a0_2, .slice A0_3 l0_3.length c0_3] 36 (0, 0)) (by (with_reducible repeat (first | refine blk_drewN ?_ _ | refine blk_drew ?_ | refine blk_alloc ?_ _)); exact BK510.out) hb); have n1_ := Aside0.mk (below_step (by repeat (first | (with_reducible first | exact HB.out | apply below_alloc | apply pw_below_drewN | apply below_drew1 | refine below_set ?_ GE510.out) | exact HB.out)) hb); have n2_ := Aside0.mk (hbox); have n3_ := Aside0.mk ((by rw [hg]; exact (below_size (by repeat (first | (with_reducible first | exact HB.out | apply below_alloc | apply pw_below_drewN | apply below_drew1 | refine below_set ?_ GE510.out) | exact HB.out))) : w.heap.size ≤ gb511)); have n4_ := Aside0.mk ((by rw [hg]; exact (below_size (by repeat (first | (with_reducible first | exact HB.out | apply below_alloc | apply pw_below_drewN | apply below_drew1 | refine below_set ?_ GE510.out) | exact HB.out))) : w.heap.size ≤ gb511)); have n5_ := Aside0.mk ((by rw [hg]; exact Nat.ne_of_lt (blk_lt (g := gb510) (o := .cells #[.string a0_0, .string a0_1, .string a0_2, .slice A0_3 l0_3.length c0_3] 36 (0, 0)) (by (with_reducible repeat (first | refine blk_drewN ?_ _ | refine blk_drew ?_ | refine blk_alloc ?_ _)); exact BK510.out)) : gb510 ≠ gb511)); have n6_ := Aside0.mk ((by rw [hg]; exact Nat.ne_of_gt (blk_lt (g := gb510) (o := .cells #[.string a0_0, .string a0_1, .string a0_2, .slice A0_3 l0_3.length c0_3] 36 (0, 0)) (by (with_reducible repeat (first | refine blk_drewN ?_ _ | refine blk_drew ?_ | refine blk_alloc ?_ _)); exact BK510.out)) : gb511 ≠ gb510)); clear BK510; clear HB; have BK510 := n0_; have HB := n1_; have BK511 := n2_; have GW511 := n3_; have GE511 := n4_; have NB510_511 := n5_; have NB511_510 := n6_; clear n0_ n1_ n2_ n3_ n4_ n5_ n6_; clear hb hbox hg))
 have n0_ := Aside0.mk (blk_drew BK510.out)
 have n1_ := Aside0.mk (blk_drew BK511.out)
 have n2_ := Aside0.mk (below_drew1 HB.out)
 clear BK510
 clear BK511
 clear HB
 have BK510 := n0_
 have BK511 := n1_
 have HB := n2_
 clear n0_ n1_ n2_
 refine start_ (n := 6) (S := fun w' => w'.cell? ⟨gb510, 0, none⟩ = some (.string a0_0) ∧ w'.cell? ⟨gb510, 1, none⟩ = some (.string a0_1) ∧ w'.cell? ⟨gb510, 2, none⟩ = some (.string a0_2) ∧ w'.cell? ⟨gb510, 3, none⟩ = some (.slice A0_3 l0_3.length c0_3) ∧ w'.cell? ⟨gb511, 0, none⟩ = some (.string a1_0) ∧ w'.cell? ⟨gb511, 1, none⟩ = some (.string a1_1) ∧ w'.cell? ⟨gb511, 2, none⟩ = some (.string a1_2) ∧ w'.cell? ⟨gb511, 3, none⟩ = some (.slice A1_3 l1_3.length c1_3)) (ds := [4, 5]) #[false, false, false, false, false, false] (by kernel_rfl) rfl rfl ⟨(blk_cell BK510.out 0).trans rfl, (blk_cell BK510.out 1).trans rfl, (blk_cell BK510.out 2).trans rfl, (blk_cell BK510.out 3).trans rfl, (blk_cell BK511.out 0).trans rfl, (blk_cell BK511.out 1).trans rfl, (blk_cell BK511.out 2).trans rfl, (blk_cell BK511.out 3).trans rfl⟩ (fun hHeld => ?_)
 generalize w10.drew = w11 at BK510 BK511 HB hHeld ⊢
 refine take_ (i := 0) (N := some 15) (v := ?_) (a' := ?_) #[true, false, false, false, false, false] rfl rfl (by kernel_rfl) (fun _ _ _ h => h) (Or.inl ⟨by rfl, ?_⟩) hHeld ?_ ?_
 rotate_left
 ·rintro w' ⟨s0, s1, s2, s3, s4, s5, s6, s7⟩
  go_simp
  with_reducible rfl
 rotate_left
 ·simp only [Act.put, List.setIfInBounds_toArray, List.set_cons_zero, List.set_cons_succ, i64_w, i32_w]
  rfl
 refine take_ (i := 2) (N := some 17) (v := ?_) (a' := ?_) #[true, false, true, false, false, false] rfl rfl (by kernel_rfl) (fun _ _ _ h => h) (Or.inl ⟨by rfl, ?_⟩) hHeld ?_ ?_
 rotate_left
 ·rintro w' ⟨s0, s1, s2, s3, s4, s5, s6, s7⟩
  go_simp
  with_reducible rfl
 rotate_left
 ·simp only [Act.put, List.setIfInBounds_toArray, List.set_cons_zero, List.set_cons_succ, i64_w, i32_w]
  rfl
 refine one_ (i := 1) (N := some 16) #[true, true, true, false, false, false] rfl rfl (by kernel_rfl) (by decide) (fun K hK => ?_)
 refine goes_ Tryd.func17 (by kernel_rfl) rfl #[.agg #[.string a0_0, .string a0_1, .string a0_2, .slice A0_3 l0_3.length c0_3]] (by rfl) rfl rfl (by (try simp only [List.map_toArray, List.map_cons, List.map_nil]); first | done | rfl | (simp only [List.length_drop, List.length_take]; rfl)) ?_
 with_reducible refine (graftwoodlaw03_Few.calls k a0_0 a0_1 a0_2 _ _ l0_3 t512 t513 t514 t515 _ ?side1 ?side2 A3.out).mono ?_
 (case side1 => repeat (first | exact (Kd.C_below HR0_3.out HB.out) | (with_reducible refine Kd.C_alloc ?_ _) | (with_reducible refine Kd.C_drewN ?_ _) | (with_reducible refine Kd.C_drew ?_)))
 (case side2 => exact HC0_3.out)
 rintro e w12 ⟨v516, rfl, ho0, hb⟩
 refine ⟨_, rfl, ?_⟩
 have n0_ := Aside0.mk (Kd.R_lower ho0 (below_size (by repeat (first | (with_reducible first | exact HB.out | apply below_alloc | apply pw_below_drewN | apply below_drew1 | refine below_set ?_ GE510.out | refine below_set ?_ GE511.out) | exact HB.out))))
 have n1_ := Aside0.mk (blk_below (g := gb510) (o := .cells #[.string a0_0, .string a0_1, .string a0_2, .slice A0_3 l0_3.length c0_3] 36 (0, 0)) (by (with_reducible repeat (first | refine blk_drewN ?_ _ | refine blk_drew ?_ | refine blk_alloc ?_ _)); exact BK510.out) hb)
 have n2_ := Aside0.mk (blk_below (g := gb511) (o := .cells #[.string a1_0, .string a1_1, .string a1_2, .slice A1_3 l1_3.length c1_3] 36 (0, 0)) (by (with_reducible repeat (first | refine blk_drewN ?_ _ | refine blk_drew ?_ | refine blk_alloc ?_ _)); exact BK511.out) hb)
 have n3_ := Aside0.mk (below_step (by repeat (first | (with_reducible first | exact HB.out | apply below_alloc | apply pw_below_drewN | apply below_drew1 | refine below_set ?_ GE510.out | refine below_set ?_ GE511.out) | exact HB.out)) hb)
 clear BK510
 clear BK511
 clear HB
 have HO517 := n0_
 have BK510 := n1_
 have BK511 := n2_
 have HB := n3_
 clear n0_ n1_ n2_ n3_
 (try clear hb)
 (try clear hb2)
 (try clear hk)
 (try clear hi)
 (try clear ho0)
 refine hK.out _ _ ⟨(blk_cell BK510.out 0).trans rfl, (blk_cell BK510.out 1).trans rfl, (blk_cell BK510.out 2).trans rfl, (blk_cell BK510.out 3).trans rfl, (blk_cell BK511.out 0).trans rfl, (blk_cell BK511.out 1).trans rfl, (blk_cell BK511.out 2).trans rfl, (blk_cell BK511.out 3).trans rfl⟩ (fun hHeld => ?_)
 clear hK K
 refine norm_ (a' := ?_) ?_ ?_
 rotate_left
 ·show Act.put _ (some 16) _ = _
  simp only [Act.put, List.setIfInBounds_toArray, List.set_cons_zero, List.set_cons_succ, i64_w, i32_w]
  rfl
 refine one_ (i := 3) (N := some 18) #[true, true, true, true, false, false] rfl rfl (by kernel_rfl) (by decide) (fun K hK => ?_)
 refine goes_ Tryd.func17 (by kernel_rfl) rfl #[.agg #[.string a1_0, .string a1_1, .string a1_2, .slice A1_3 l1_3.length c1_3]] (by rfl) rfl rfl (by (try simp only [List.map_toArray, List.map_cons, List.map_nil]); first | done | rfl | (simp only [List.length_drop, List.length_take]; rfl)) ?_
 with_reducible refine (graftwoodlaw03_Few.calls k a1_0 a1_1 a1_2 _ _ l1_3 t518 t519 t520 t521 _ ?side1 ?side2 A4.out).mono ?_
 (case side1 => repeat (first | exact (Kd.C_below HR1_3.out HB.out) | (with_reducible refine Kd.C_alloc ?_ _) | (with_reducible refine Kd.C_drewN ?_ _) | (with_reducible refine Kd.C_drew ?_)))
 (case side2 => exact HC1_3.out)
 rintro e w13 ⟨v522, rfl, ho0, hb⟩
 refine ⟨_, rfl, ?_⟩
 have n0_ := Aside0.mk (Kd.R_elder' (by (with_reducible repeat (first | apply Kd.R_alloc | apply Kd.R_drewN | apply Kd.R_drew)); exact HO517.out) (Kd.R_base ho0) hb)
 have n1_ := Aside0.mk (Kd.R_lower (Kd.R_new' ho0 (Kd.R_lt (by (with_reducible repeat (first | apply Kd.R_alloc | apply Kd.R_drewN | apply Kd.R_drew)); exact HO517.out))) (below_size (by repeat (first | (with_reducible first | exact HB.out | apply below_alloc | apply pw_below_drewN | apply below_drew1 | refine below_set ?_ GE510.out | refine below_set ?_ GE511.out) | exact HB.out))))
 have n2_ := Aside0.mk (blk_below (g := gb510) (o := .cells #[.string a0_0, .string a0_1, .string a0_2, .slice A0_3 l0_3.length c0_3] 36 (0, 0)) (by (with_reducible repeat (first | refine blk_drewN ?_ _ | refine blk_drew ?_ | refine blk_alloc ?_ _)); exact BK510.out) hb)
 have n3_ := Aside0.mk (blk_below (g := gb511) (o := .cells #[.string a1_0, .string a1_1, .string a1_2, .slice A1_3 l1_3.length c1_3] 36 (0, 0)) (by (with_reducible repeat (first | refine blk_drewN ?_ _ | refine blk_drew ?_ | refine blk_alloc ?_ _)); exact BK511.out) hb)
 have n4_ := Aside0.mk (below_step (by repeat (first | (with_reducible first | exact HB.out | apply below_alloc | apply pw_below_drewN | apply below_drew1 | refine below_set ?_ GE510.out | refine below_set ?_ GE511.out) | exact HB.out)) hb)
 clear HO517
 clear BK510
 clear BK511
 clear HB
 have HO517 := n0_
 have HO523 := n1_
 have BK510 := n2_
 have BK511 := n3_
 have HB := n4_
 clear n0_ n1_ n2_ n3_ n4_
 (try clear hb)
 (try clear hb2)
 (try clear hk)
 (try clear hi)
 (try clear ho0)
 obtain ⟨Ao17, co17, eo17⟩ := Kd.R_slice HO517.out
 (first | subst eo17 | (injection eo17 with f1_ f2_ f3_; have f4_ := f1_.symm; have f5_ := f3_.symm; clear f1_ f2_ f3_; subst f4_; subst f5_))
 obtain ⟨Ao22, co22, eo22⟩ := Kd.R_slice HO523.out
 (first | subst eo22 | (injection eo22 with f1_ f2_ f3_; have f4_ := f1_.symm; have f5_ := f3_.symm; clear f1_ f2_ f3_; subst f4_; subst f5_))
 refine hK.out _ _ ⟨(blk_cell BK510.out 0).trans rfl, (blk_cell BK510.out 1).trans rfl, (blk_cell BK510.out 2).trans rfl, (blk_cell BK510.out 3).trans rfl, (blk_cell BK511.out 0).trans rfl, (blk_cell BK511.out 1).trans rfl, (blk_cell BK511.out 2).trans rfl, (blk_cell BK511.out 3).trans rfl⟩ (fun hHeld => ?_)
 clear hK K
 refine norm_ (a' := ?_) ?_ ?_
 rotate_left
 ·show Act.put _ (some 18) _ = _
  simp only [Act.put, List.setIfInBounds_toArray, List.set_cons_zero, List.set_cons_succ, i64_w, i32_w]
  rfl
 refine last_ (i := 4) (N := none) #[true, true, true, true, true, false] rfl rfl (by kernel_rfl) (by decide) (fun K hK => ?_)
 have hs14 : w13.cell? ⟨gb510, 0, none⟩ = some (.string a0_0) := (blk_cell BK510.out 0).trans rfl
 have hfs14 := blk_frozen BK510.out 0
 have hns14_1 := NB511_510.out
 have hms14_1 := NB510_511.out
 have hs15 : w13.cell? ⟨gb510, 1, none⟩ = some (.string a0_1) := (blk_cell BK510.out 1).trans rfl
 have hfs15 := blk_frozen BK510.out 1
 have hns15_1 := NB511_510.out
 have hms15_1 := NB510_511.out
 have hs16 : w13.cell? ⟨gb510, 2, none⟩ = some (.string a0_2) := (blk_cell BK510.out 2).trans rfl
 have hfs16 := blk_frozen BK510.out 2
 have hns16_1 := NB511_510.out
 have hms16_1 := NB510_511.out
 have hs18 : w13.cell? ⟨gb510, 3, none⟩ = some (.slice A0_3 l0_3.length c0_3) := (blk_cell BK510.out 3).trans rfl
 have hfs18 := blk_frozen BK510.out 3
 have hns18_1 := NB511_510.out
 have hms18_1 := NB510_511.out
 refine skip_ (w1 := ?_) (by rfl) rfl ?_ ?_
 rotate_left
 ·go_simp
  rfl
 refine hK.out _ _ ?_
 clear hK K
 refine last_ (i := 5) (N := none) #[true, true, true, true, true, true] rfl rfl (by kernel_rfl) (by decide) (fun K hK => ?_)
 have hs19 : w13.cell? ⟨gb511, 0, none⟩ = some (.string a1_0) := (blk_cell BK511.out 0).trans rfl
 have hfs19 := blk_frozen BK511.out 0
 have hns19_0 := NB510_511.out
 have hms19_0 := NB511_510.out
 have hs20 : w13.cell? ⟨gb511, 1, none⟩ = some (.string a1_1) := (blk_cell BK511.out 1).trans rfl
 have hfs20 := blk_frozen BK511.out 1
 have hns20_0 := NB510_511.out
 have hms20_0 := NB511_510.out
 have hs21 : w13.cell? ⟨gb511, 2, none⟩ = some (.string a1_2) := (blk_cell BK511.out 2).trans rfl
 have hfs21 := blk_frozen BK511.out 2
 have hns21_0 := NB510_511.out
 have hms21_0 := NB511_510.out
 have hs23 : w13.cell? ⟨gb511, 3, none⟩ = some (.slice A1_3 l1_3.length c1_3) := (blk_cell BK511.out 3).trans rfl
 have hfs23 := blk_frozen BK511.out 3
 have hns23_0 := NB510_511.out
 have hms23_0 := NB511_510.out
 refine skip_ (w1 := ?_) (by rfl) rfl ?_ ?_
 rotate_left
 ·go_simp
  rfl
 refine hK.out _ _ ?_
 clear hK K
 refine done_ (by kernel_rfl) ?_
 have hnb24 := NB510_511.out
 have hnc24 := NB511_510.out
 have hcz25_0 : w13.cell? ⟨gb510, 0, none⟩ = some (.string a0_0) := (blk_cell BK510.out 0).trans rfl
 have hcz25_1 : w13.cell? ⟨gb510, 1, none⟩ = some (.string a0_1) := (blk_cell BK510.out 1).trans rfl
 have hcz25_2 : w13.cell? ⟨gb510, 2, none⟩ = some (.string a0_2) := (blk_cell BK510.out 2).trans rfl
 have hcz25_3 : w13.cell? ⟨gb510, 3, none⟩ = some (.slice A0_3 l0_3.length c0_3) := (blk_cell BK510.out 3).trans rfl
 have hfz25_0 := blk_frozen BK510.out 0
 have hfz25_1 := blk_frozen BK510.out 1
 have hfz25_2 := blk_frozen BK510.out 2
 have hfz25_3 := blk_frozen BK510.out 3
 go_upto_region 5 with (first | ((with_reducible refine gate_callee (f := 20) rfl ?_); refine goesL_ (some 21) rfl rfl Tryd.func20 (by kernel_rfl) rfl #[.agg #[.string t512, .string t513, .string t514, .slice Ao17 t515.length co17]] rfl (by (try simp only [List.map_toArray, List.map_cons, List.map_nil]); first | done | rfl | (simp only [List.length_drop, List.length_take]; rfl)) ?_; (with_reducible refine (version_Join.calls k t512 t513 t514 _ _ t515 t524 t525 _ ?side1 ?side2 A5.out).mono ?_); (case side1 => refine (Kd.R_reads' (e := 9) (base := w.heap.size) (ok := fun k_ => (True ∧ some k_ ≠ (.slice Ao22 t521.length co22 : Value).ownBlock)) (n := t515.length) (c := co17) ?_).2.2; exact (by (with_reducible repeat (first | apply Kd.R_alloc | apply Kd.R_drewN | apply Kd.R_drew)); exact (Kd.R_mono (Kd.R_mono (Kd.R_far (p := ⟨gb511, 3, none⟩) (Kd.R_far (p := ⟨gb511, 2, none⟩) (Kd.R_far (p := ⟨gb511, 1, none⟩) (Kd.R_far (p := ⟨gb511, 0, none⟩) (Kd.R_far (p := ⟨gb510, 3, none⟩) (Kd.R_far (p := ⟨gb510, 2, none⟩) (Kd.R_far (p := ⟨gb510, 1, none⟩) (Kd.R_far (p := ⟨gb510, 0, none⟩) (Kd.R_types (Kd.R_types HO517.out BK510.out (by decide)) BK511.out (by decide)) (fun _ hk => hk.1.2) (.string t512)) (fun _ hk => hk.1.2) (.string t513)) (fun _ hk => hk.1.2) (.string t514)) (fun _ hk => hk.1.2) (.slice Ao17 t515.length co17)) (fun _ hk => hk.2) (.string t518)) (fun _ hk => hk.2) (.string t519)) (fun _ hk => hk.2) (.string t520)) (fun _ hk => hk.2) (.slice Ao22 t521.length co22)) (fun _ h_ => h_.1)) (fun _ h_ => h_.1)))); (case side2 => exact (Kd.R_reads' HO517.out).2.1); rintro e w26 ⟨rfl, hb⟩; refine ⟨_, rfl, ?_⟩; have n0_ := Aside0.mk (Kd.R_below (by (with_reducible repeat (first | apply Kd.R_alloc | apply Kd.R_drewN | apply Kd.R_drew)); exact (Kd.R_mono (Kd.R_mono (Kd.R_far (p := ⟨gb511, 3, none⟩) (Kd.R_far (p := ⟨gb511, 2, none⟩) (Kd.R_far (p := ⟨gb511, 1, none⟩) (Kd.R_far (p := ⟨gb511, 0, none⟩) (Kd.R_far (p := ⟨gb510, 3, none⟩) (Kd.R_far (p := ⟨gb510, 2, none⟩) (Kd.R_far (p := ⟨gb510, 1, none⟩) (Kd.R_far (p := ⟨gb510, 0, none⟩) (Kd.R_types (Kd.R_types HO517.out BK510.out (by decide)) BK511.out (by decide)) (fun _ hk => hk.1.2) (.string t512)) (fun _ hk => hk.1.2) (.string t513)) (fun _ hk => hk.1.2) (.string t514)) (fun _ hk => hk.1.2) (.slice Ao17 t515.length co17)) (fun _ hk => hk.2) (.string t518)) (fun _ hk => hk.2) (.string t519)) (fun _ hk => hk.2) (.string t520)) (fun _ hk => hk.2) (.slice Ao22 t521.length co22)) (fun _ h_ => h_.1)) (fun _ h_ => h_.1))) hb); have n1_ := Aside0.mk (Kd.R_below (by (with_reducible repeat (first | apply Kd.R_alloc | apply Kd.R_drewN | apply Kd.R_drew)); exact (Kd.R_mono (Kd.R_mono (Kd.R_far (p := ⟨gb511, 3, none⟩) (Kd.R_far (p := ⟨gb511, 2, none⟩) (Kd.R_far (p := ⟨gb511, 1, none⟩) (Kd.R_far (p := ⟨gb511, 0, none⟩) (Kd.R_far (p := ⟨gb510, 3, none⟩) (Kd.R_far (p := ⟨gb510, 2, none⟩) (Kd.R_far (p := ⟨gb510, 1, none⟩) (Kd.R_far (p := ⟨gb510, 0, none⟩) (Kd.R_types (Kd.R_types HO523.out BK510.out (by decide)) BK511.out (by decide)) (fun _ hk => hk.1.2) (.string t512)) (fun _ hk => hk.1.2) (.string t513)) (fun _ hk => hk.1.2) (.string t514)) (fun _ hk => hk.1.2) (.slice Ao17 t515.length co17)) (fun _ hk => hk.2) (.string t518)) (fun _ hk => hk.2) (.string t519)) (fun _ hk => hk.2) (.string t520)) (fun _ hk => hk.2) (.slice Ao22 t521.length co22)) (fun _ h_ => h_.1)) (fun _ h_ => h_.1))) hb); have n2_ := Aside0.mk (blk_below (g := gb510) (o := .cells #[.string t512, .string t513, .string t514, .slice Ao17 t515.length co17] 36 (0, 0)) (by (with_reducible repeat (first | refine blk_drewN ?_ _ | refine blk_drew ?_ | refine blk_alloc ?_ _)); refine blk_far ?_ NB510_511.out _; (with_reducible repeat (first | refine blk_drewN ?_ _ | refine blk_drew ?_ | refine blk_alloc ?_ _)); refine blk_far ?_ NB510_511.out _; (with_reducible repeat (first | refine blk_drewN ?_ _ | refine blk_drew ?_ | refine blk_alloc ?_ _)); refine blk_far ?_ NB510_511.out _; (with_reducible repeat (first | refine blk_drewN ?_ _ | refine blk_drew ?_ | refine blk_alloc ?_ _)); refine blk_far ?_ NB510_511.out _; (with_reducible repeat (first | refine blk_drewN ?_ _ | refine blk_drew ?_ | refine blk_alloc ?_ _)); refine blk_put (cs := #[.string t512, .string t513, .string t514, .slice A0_3 l0_3.length c0_3]) ?_ 3 _ rfl; (with_reducible repeat (first | refine blk_drewN ?_ _ | refine blk_drew ?_ | refine blk_alloc ?_ _)); refine blk_put (cs := #[.string t512, .string t513, .string a0_2, .slice A0_3 l0_3.length c0_3]) ?_ 2 _ rfl; (with_reducible repeat (first | refine blk_drewN ?_ _ | refine blk_drew ?_ | refine blk_alloc ?_ _)); refine blk_put (cs := #[.string t512, .string a0_1, .string a0_2, .slice A0_3 l0_3.length c0_3]) ?_ 1 _ rfl; (with_reducible repeat (first | refine blk_drewN ?_ _ | refine blk_drew ?_ | refine blk_alloc ?_ _)); refine blk_put (cs := #[.string a0_0, .string a0_1, .string a0_2, .slice A0_3 l0_3.length c0_3]) ?_ 0 _ rfl; (with_reducible repeat (first | refine blk_drewN ?_ _ | refine blk_drew ?_ | refine blk_alloc ?_ _)); exact BK510.out) hb); have n3_ := Aside0.mk (blk_below (g := gb511) (o := .cells #[.string t518, .string t519, .string t520, .slice Ao22 t521.length co22] 36 (0, 0)) (by (with_reducible repeat (first | refine blk_drewN ?_ _ | refine blk_drew ?_ | refine blk_alloc ?_ _)); refine blk_put (cs := #[.string t518, .string t519, .string t520, .slice A1_3 l1_3.length c1_3]) ?_ 3 _ rfl; (with_reducible repeat (first | refine blk_drewN ?_ _ | refine blk_drew ?_ | refine blk_alloc ?_ _)); refine blk_put (cs := #[.string t518, .string t519, .string a1_2, .slice A1_3 l1_3.length c1_3]) ?_ 2 _ rfl; (with_reducible repeat (first | refine blk_drewN ?_ _ | refine blk_drew ?_ | refine blk_alloc ?_ _)); refine blk_put (cs := #[.string t518, .string a1_1, .string a1_2, .slice A1_3 l1_3.length c1_3]) ?_ 1 _ rfl; (with_reducible repeat (first | refine blk_drewN ?_ _ | refine blk_drew ?_ | refine blk_alloc ?_ _)); refine blk_put (cs := #[.string a1_0, .string a1_1, .string a1_2, .slice A1_3 l1_3.length c1_3]) ?_ 0 _ rfl; (with_reducible repeat (first | refine blk_drewN ?_ _ | refine blk_drew ?_ | refine blk_alloc ?_ _)); refine blk_far ?_ NB511_510.out _; (with_reducible repeat (first | refine blk_drewN ?_ _ | refine blk_drew ?_ | refine blk_alloc ?_ _)); refine blk_far ?_ NB511_510.out _; (with_reducible repeat (first | refine blk_drewN ?_ _ | refine blk_drew ?_ | refine blk_alloc ?_ _)); refine blk_far ?_ NB511_510.out _; (with_reducible repeat (first | refine blk_drewN ?_ _ | refine blk_drew ?_ | refine blk_alloc ?_ _)); refine blk_far ?_ NB511_510.out _; (with_reducible repeat (first | refine blk_drewN ?_ _ | refine blk_drew ?_ | refine blk_alloc ?_ _)); exact BK511.out) hb); have n4_ := Aside0.mk (below_step (by repeat (first | (with_reducible first | exact HB.out | apply below_alloc | apply pw_below_drewN | apply below_drew1 | refine below_set ?_ GE510.out | refine below_set ?_ GE511.out) | exact HB.out)) hb); clear HO517; clear HO523; clear BK510; clear BK511; clear HB; have HO517 := n0_; have HO523 := n1_; have BK510 := n2_; have BK511 := n3_; have HB := n4_; clear n0_ n1_ n2_ n3_ n4_; (try clear hb); (try clear hb2); (try clear hk); (try clear hi); have hcz27_0 : w26.cell? ⟨gb511, 0, none⟩ = some (.string t518) := (blk_cell BK511.out 0).trans rfl; have hcz27_1 : w26.cell? ⟨gb511, 1, none⟩ = some (.string t519) := (blk_cell BK511.out 1).trans rfl; have hcz27_2 : w26.cell? ⟨gb511, 2, none⟩ = some (.string t520) := (blk_cell BK511.out 2).trans rfl; have hcz27_3 : w26.cell? ⟨gb511, 3, none⟩ = some (.slice Ao22 t521.length co22) := (blk_cell BK511.out 3).trans rfl; have hfz27_0 := blk_frozen BK511.out 0; have hfz27_1 := blk_frozen BK511.out 1; have hfz27_2 := blk_frozen BK511.out 2; have hfz27_3 := blk_frozen BK511.out 3) | ((with_reducible refine gate_callee (f := 20) rfl ?_); refine goesL_ (some 26) rfl rfl Tryd.func20 (by kernel_rfl) rfl #[.agg #[.string t518, .string t519, .string t520, .slice Ao22 t521.length co22]] rfl (by (try simp only [List.map_toArray, List.map_cons, List.map_nil]); first | done | rfl | (simp only [List.length_drop, List.length_take]; rfl)) ?_; (with_reducible refine (version_Join.calls k t518 t519 t520 _ _ t521 t526 t527 _ ?side1 ?side2 A6.out).mono ?_); (case side1 => repeat (first | exact (Kd.R_reads' HO523.out).2.2 | (with_reducible refine Kd.C_alloc ?_ _) | (with_reducible refine Kd.C_drewN ?_ _) | (with_reducible refine Kd.C_drew ?_))); (case side2 => exact (Kd.R_reads' HO523.out).2.1); rintro e w28 ⟨rfl, hb⟩; refine ⟨_, rfl, ?_⟩; have n0_ := Aside0.mk (Kd.R_below (by (with_reducible repeat (first | apply Kd.R_alloc | apply Kd.R_drewN | apply Kd.R_drew)); exact HO517.out) hb); have n1_ := Aside0.mk (Kd.R_below (by (with_reducible repeat (first | apply Kd.R_alloc | apply Kd.R_drewN | apply Kd.R_drew)); exact HO523.out) hb); have n2_ := Aside0.mk (blk_below (g := gb510) (o := .cells #[.string t512, .string t513, .string t514, .slice Ao17 t515.length co17] 36 (0, 0)) (by (with_reducible repeat (first | refine blk_drewN ?_ _ | refine blk_drew ?_ | refine blk_alloc ?_ _)); exact BK510.out) hb); have n3_ := Aside0.mk (blk_below (g := gb511) (o := .cells #[.string t518, .string t519, .string t520, .slice Ao22 t521.length co22] 36 (0, 0)) (by (with_reducible repeat (first | refine blk_drewN ?_ _ | refine blk_drew ?_ | refine blk_alloc ?_ _)); exact BK511.out) hb); have n4_ := Aside0.mk (below_step (by repeat (first | (with_reducible first | exact HB.out | apply below_alloc | apply pw_below_drewN | apply below_drew1 | refine below_set ?_ GE510.out | refine below_set ?_ GE511.out) | exact HB.out)) hb); clear HO517; clear HO523; clear BK510; clear BK511; clear HB; have HO517 := n0_; have HO523 := n1_; have BK510 := n2_; have BK511 := n3_; have HB := n4_; clear n0_ n1_ n2_ n3_ n4_; (try clear hb); (try clear hb2); (try clear hk); (try clear hi)) | ((with_reducible refine gate_callee (f := 11) rfl ?_); refine goesL_ (some 32) rfl rfl Tryd.func11 (by kernel_rfl) rfl #[.string t524, .string t526] rfl (by (try simp only [List.map_toArray, List.map_cons, List.map_nil]); first | done | rfl | (simp only [List.length_drop, List.length_take]; rfl)) ?_; (with_reducible refine (version_Cmp.calls k t524 t526 t528 t529 _ A7.out).mono ?_); rintro e w29 ⟨rfl, hb⟩; refine ⟨_, rfl, ?_⟩; have n0_ := Aside0.mk (Kd.R_below (by (with_reducible repeat (first | apply Kd.R_alloc | apply Kd.R_drewN | apply Kd.R_drew)); exact HO517.out) hb); have n1_ := Aside0.mk (Kd.R_below (by (with_reducible repeat (first | apply Kd.R_alloc | apply Kd.R_drewN | apply Kd.R_drew)); exact HO523.out) hb); have n2_ := Aside0.mk (blk_below (g := gb510) (o := .cells #[.string t512, .string t513, .string t514, .slice Ao17 t515.length co17] 36 (0, 0)) (by (with_reducible repeat (first | refine blk_drewN ?_ _ | refine blk_drew ?_ | refine blk_alloc ?_ _)); exact BK510.out) hb); have n3_ := Aside0.mk (blk_below (g := gb511) (o := .cells #[.string t518, .string t519, .string t520, .slice Ao22 t521.length co22] 36 (0, 0)) (by (with_reducible repeat (first | refine blk_drewN ?_ _ | refine blk_drew ?_ | refine blk_alloc ?_ _)); exact BK511.out) hb); have n4_ := Aside0.mk (below_step (by repeat (first | (with_reducible first | exact HB.out | apply below_alloc | apply pw_below_drewN | apply below_drew1 | refine below_set ?_ GE510.out | refine below_set ?_ GE511.out) | exact HB.out)) hb); clear HO517; clear HO523; clear BK510; clear BK511; clear HB; have HO517 := n0_; have HO523 := n1_; have BK510 := n2_; have BK511 := n3_; have HB := n4_; clear n0_ n1_ n2_ n3_ n4_; (try clear hb); (try clear hb2); (try clear hk); (try clear hi)))
 (try simp only [Act.put, List.setIfInBounds_toArray, List.set_cons_zero, List.set_cons_succ])
 go_cut [40] (fun v40 wc => ∃ (kq : Nat) (x40_7 : Bool), v40 = .bool x40_7 ∧ Aside0 (graftwoodlaw03_VersionCores.j0 kq t528 t529 x40_7 t512 t513 t514 t515 t518 t519 t520 t521 = some r) ∧ Aside0 (kq ≤ k) ∧ Aside0 (Kd.R Kd.string 9 wc w.heap.size (fun k_ => some k_ ≠ ((.slice Ao22 t521.length co22) : Value).ownBlock) (.slice Ao17 t515.length co17) t515) ∧ Aside0 (Kd.R Kd.string 9 wc w.heap.size (fun k_ => some k_ ≠ ((.slice Ao17 t515.length co17) : Value).ownBlock) (.slice Ao22 t521.length co22) t521) ∧ Aside0 (wc.heap[gb510]? = some (.cells #[.string t512, .string t513, .string t514, (.slice Ao17 t515.length co17)] 36 (0, 0))) ∧ Aside0 (wc.heap[gb511]? = some (.cells #[.string t518, .string t519, .string t520, (.slice Ao22 t521.length co22)] 36 (0, 0))) ∧ Aside0 (Below w.heap.size w wc))
 case first =>
  have H := HC8.out
  clear HC8
  by_cases c30 : t525 = 0
  ·rw [if_pos c30] at H
   have c30b0 : (t525 == 0) = true := beq_iff_eq.mpr c30
   have c30b1 : (t525 != 0) = false := bne_eq_false_iff_eq.mpr c30
   clear c30
   (first | rw [c30b0] | (simp only [i64_w, i32_w]; rw [c30b0]) | skip)
   have H' := Aside0.mk H
   clear H
   go_wp2
   go_meet
   case rel => exact ⟨_, ((t527 != 0)), (by first | rfl | (simp; done) | (simp [*]; done)), H', ⟨by first | omega | exact Nat.le_refl _⟩, ⟨by (with_reducible repeat (first | apply Kd.R_alloc | apply Kd.R_drewN | apply Kd.R_drew)); exact Kd.R_mono HO517.out (fun _ hk => hk.2)⟩, ⟨by (with_reducible repeat (first | apply Kd.R_alloc | apply Kd.R_drewN | apply Kd.R_drew)); exact Kd.R_mono HO523.out (fun _ hk => hk.2)⟩, ⟨by (with_reducible repeat (first | refine blk_drewN ?_ _ | refine blk_drew ?_ | refine blk_alloc ?_ _)); exact BK510.out⟩, ⟨by (with_reducible repeat (first | refine blk_drewN ?_ _ | refine blk_drew ?_ | refine blk_alloc ?_ _)); exact BK511.out⟩, ⟨by repeat (first | (with_reducible first | exact HB.out | apply below_alloc | apply pw_below_drewN | apply below_drew1 | refine below_set ?_ GE510.out | refine below_set ?_ GE511.out) | exact HB.out)⟩⟩
  ·rw [if_neg c30] at H
   have c30b0 : (t525 == 0) = false := beq_eq_false_iff_ne.mpr c30
   have c30b1 : (t525 != 0) = true := bne_iff_ne.mpr c30
   (first | rw [c30b0] | (simp only [i64_w, i32_w]; rw [c30b0]) | skip)
   have H' := Aside0.mk H
   clear H
   go_wp2
   go_meet
   case rel => exact ⟨_, (true), (by first | rfl | (simp; done) | (simp [*]; done)), H', ⟨by first | omega | exact Nat.le_refl _⟩, ⟨by (with_reducible repeat (first | apply Kd.R_alloc | apply Kd.R_drewN | apply Kd.R_drew)); exact Kd.R_mono HO517.out (fun _ hk => hk.2)⟩, ⟨by (with_reducible repeat (first | apply Kd.R_alloc | apply Kd.R_drewN | apply Kd.R_drew)); exact Kd.R_mono HO523.out (fun _ hk => hk.2)⟩, ⟨by (with_reducible repeat (first | refine blk_drewN ?_ _ | refine blk_drew ?_ | refine blk_alloc ?_ _)); exact BK510.out⟩, ⟨by (with_reducible repeat (first | refine blk_drewN ?_ _ | refine blk_drew ?_ | refine blk_alloc ?_ _)); exact BK511.out⟩, ⟨by repeat (first | (with_reducible first | exact HB.out | apply below_alloc | apply pw_below_drewN | apply below_drew1 | refine below_set ?_ GE510.out | refine below_set ?_ GE511.out) | exact HB.out)⟩⟩
 case rest =>
  clear HC8
  try clear c1
  try clear c2
  try clear p2
  try clear c3
  try clear c9
  try clear c11
  try clear c17
  try clear c20
  try clear c24
  try clear c30
  try clear c30b0
  try clear c30b1
  try clear hcz25_0
  try clear hcz25_1
  try clear hcz25_2
  try clear hcz25_3
  try clear hcz27_0
  try clear hcz27_1
  try clear hcz27_2
  try clear hcz27_3
  try clear hfz25_0
  try clear hfz25_1
  try clear hfz25_2
  try clear hfz25_3
  try clear hfz27_0
  try clear hfz27_1
  try clear hfz27_2
  try clear hfz27_3
  obtain ⟨kq, x40_7, rfl, HA, HJ7, HO_511003, HO_512003, BK510, BK511, HB⟩ := hcut
  cases kq with
  | zero => exact absurd HA.out (by simp [graftwoodlaw03_VersionCores.j0])
  | succ kj7 =>
   have H := HA.out
   clear HA
   simp only [graftwoodlaw03_VersionCores.j0] at H
   by_cases c31 : x40_7 = true
   ·subst c31
    have H1 : ((graftwoodlaw03_awake.f kj7).bind fun t530 => (some t530)) = some r := by rw [if_pos rfl] at H; exact H
    clear H
    have H := H1
    clear H1
    replace H := Option.bind_eq_some_iff.mp H
    obtain ⟨t530, A320, H⟩ := H
    replace H : (some t530) = some r := H
    have A32 := Aside0.mk A320
    clear A320
    obtain rfl := Option.some.inj H
    go_wp2_with (first | ((with_reducible refine gate_callee (f := 13) rfl ?_); refine goesL_ (some 41) rfl rfl Tryd.func13 (by kernel_rfl) rfl #[] rfl (by (try simp only [List.map_toArray, List.map_cons, List.map_nil]); first | done | rfl | (simp only [List.length_drop, List.length_take]; rfl)) ?_; (with_reducible refine (graftwoodlaw03_awake.calls kj7  t530 _ A32.out).mono ?_); rintro e w33 ⟨rfl, hb⟩; refine ⟨_, rfl, ?_⟩; have n0_ := Aside0.mk (Kd.R_below (by (with_reducible repeat (first | apply Kd.R_alloc | apply Kd.R_drewN | apply Kd.R_drew)); exact HO_511003.out) hb); have n1_ := Aside0.mk (Kd.R_below (by (with_reducible repeat (first | apply Kd.R_alloc | apply Kd.R_drewN | apply Kd.R_drew)); exact HO_512003.out) hb); have n2_ := Aside0.mk (blk_below (g := gb510) (o := .cells #[.string t512, .string t513, .string t514, .slice Ao17 t515.length co17] 36 (0, 0)) (by (with_reducible repeat (first | refine blk_drewN ?_ _ | refine blk_drew ?_ | refine blk_alloc ?_ _)); exact BK510.out) hb); have n3_ := Aside0.mk (blk_below (g := gb511) (o := .cells #[.string t518, .string t519, .string t520, .slice Ao22 t521.length co22] 36 (0, 0)) (by (with_reducible repeat (first | refine blk_drewN ?_ _ | refine blk_drew ?_ | refine blk_alloc ?_ _)); exact BK511.out) hb); have n4_ := Aside0.mk (below_step (by repeat (first | (with_reducible first | exact HB.out | apply below_alloc | apply pw_below_drewN | apply below_drew1 | refine below_set ?_ GE510.out | refine below_set ?_ GE511.out) | exact HB.out)) hb); clear HO_511003; clear HO_512003; clear BK510; clear BK511; clear HB; have HO_511003 := n0_; have HO_512003 := n1_; have BK510 := n2_; have BK511 := n3_; have HB := n4_; clear n0_ n1_ n2_ n3_ n4_; (try clear hb); (try clear hb2); (try clear hk); (try clear hi)))
    go_ret
    exact ⟨by first | rfl | (simp [errW_none, errW_some] <;> rfl) | (simp [*, errW_none, errW_some] <;> rfl), by repeat (first | (with_reducible first | exact HB.out | apply below_alloc | apply pw_below_drewN | apply below_drew1 | refine below_set ?_ GE510.out | refine below_set ?_ GE511.out) | exact HB.out)⟩
   ·replace c31 := Bool.eq_false_iff.mpr c31
    subst c31
    have H1 : (graftwoodlaw03_VersionCores.l0 kj7 t528 t529 (([t512, t513, t514] : List ByteArray)) (([t518, t519, t520] : List ByteArray)) 0 t512 t513 t514 t515 t518 t519 t520 t521) = some r := by rw [if_neg (show ¬ (false = true) by decide)] at H; exact H
    clear H
    have H := H1
    clear H1
    obtain ⟨y531, hy531⟩ : ∃ y_ : List ByteArray, y_ = (([t512, t513, t514] : List ByteArray)) := ⟨_, rfl⟩
    replace H : (graftwoodlaw03_VersionCores.l0 kj7 t528 t529 y531 (([t518, t519, t520] : List ByteArray)) 0 t512 t513 t514 t515 t518 t519 t520 t521) = some r := by first | (rw [hy531]; with_reducible exact H) | (have H2_ := (Option.bind_some _ _).symm.trans H; rw [hy531]; with_reducible exact H2_) | (have H2_ := (Option.bind_some _ _).symm.trans H; with_reducible exact H2_) | with_reducible exact H | (rw [hy531]; exact H) | exact H
    have Ny531 := Aside0.mk hy531
    clear hy531
    obtain ⟨y534, hy534⟩ : ∃ y_ : List ByteArray, y_ = (([t518, t519, t520] : List ByteArray)) := ⟨_, rfl⟩
    replace H : (graftwoodlaw03_VersionCores.l0 kj7 t528 t529 y531 y534 0 t512 t513 t514 t515 t518 t519 t520 t521) = some r := by first | (rw [hy534]; with_reducible exact H) | (have H2_ := (Option.bind_some _ _).symm.trans H; rw [hy534]; with_reducible exact H2_) | (have H2_ := (Option.bind_some _ _).symm.trans H; with_reducible exact H2_) | with_reducible exact H | (rw [hy534]; exact H) | exact H
    have Ny534 := Aside0.mk hy534
    clear hy534
    have H' := Aside0.mk H
    clear H
    try go_wp2
    have n0_ := Aside0.mk (Kd.R_drew HO_511003.out)
    have n1_ := Aside0.mk (Kd.R_drew HO_512003.out)
    have n2_ := Aside0.mk (blk_drew BK510.out)
    have n3_ := Aside0.mk (blk_drew BK511.out)
    have n4_ := Aside0.mk (below_drew1 HB.out)
    clear HO_511003
    clear HO_512003
    clear BK510
    clear BK511
    clear HB
    have HO_511003 := n0_
    have HO_512003 := n1_
    have BK510 := n2_
    have BK511 := n3_
    have HB := n4_
    clear n0_ n1_ n2_ n3_ n4_
    refine start_ (n := 16) (S := fun w' => True) (ds := []) #[false, false, false, false, false, false, false, false, false, false, false, false, false, false, false, false] (by kernel_rfl) rfl rfl trivial (fun hHeld => ?_); refine with_tabW graftwoodlaw03_VersionCores.tab7 graftwoodlaw03_VersionCores.bits7 (fun HT_ HW_ => ?_)
    generalize wc.drew = w34 at HO_511003 HO_512003 BK510 BK511 HB hHeld ⊢
    refine pure_ (i := 0) (N := some 42) (v := ?_) (a' := ?_) #[true, false, false, false, false, false, false, false, false, false, false, false, false, false, false, false] rfl rfl (any_of HT_.out (by kernel_rfl)) (fun _ _ _ h => h) (Or.inl ⟨by rfl, ?_⟩) ?_ ?_
    rotate_left
    ·intro w'
     go_simp
     with_reducible rfl
    rotate_left
    ·simp only [Act.put, List.setIfInBounds_toArray, List.set_cons_zero, List.set_cons_succ, i64_w, i32_w]
     rfl
    refine pure_ (i := 2) (N := some 44) (v := ?_) (a' := ?_) #[true, false, true, false, false, false, false, false, false, false, false, false, false, false, false, false] rfl rfl (any_of HT_.out (by kernel_rfl)) (fun _ _ _ h => h) (Or.inl ⟨by rfl, ?_⟩) ?_ ?_
    rotate_left
    ·intro w'
     go_simp
     with_reducible rfl
    rotate_left
    ·simp only [Act.put, List.setIfInBounds_toArray, List.set_cons_zero, List.set_cons_succ, i64_w, i32_w]
     rfl
    refine pure_ (i := 4) (N := some 46) (v := ?_) (a' := ?_) #[true, false, true, false, true, false, false, false, false, false, false, false, false, false, false, false] rfl rfl (any_of HT_.out (by kernel_rfl)) (fun _ _ _ h => h) (Or.inl ⟨by rfl, ?_⟩) ?_ ?_
    rotate_left
    ·intro w'
     go_simp
     with_reducible rfl
    rotate_left
    ·simp only [Act.put, List.setIfInBounds_toArray, List.set_cons_zero, List.set_cons_succ, i64_w, i32_w]
     rfl
    refine pure_ (i := 7) (N := some 49) (v := ?_) (a' := ?_) #[true, false, true, false, true, false, false, true, false, false, false, false, false, false, false, false] rfl rfl (any_of HT_.out (by kernel_rfl)) (fun _ _ _ h => h) (Or.inl ⟨by rfl, ?_⟩) ?_ ?_
    rotate_left
    ·intro w'
     go_simp
     with_reducible rfl
    rotate_left
    ·simp only [Act.put, List.setIfInBounds_toArray, List.set_cons_zero, List.set_cons_succ, i64_w, i32_w]
     rfl
    refine pure_ (i := 9) (N := some 51) (v := ?_) (a' := ?_) #[true, false, true, false, true, false, false, true, false, true, false, false, false, false, false, false] rfl rfl (any_of HT_.out (by kernel_rfl)) (fun _ _ _ h => h) (Or.inl ⟨by rfl, ?_⟩) ?_ ?_
    rotate_left
    ·intro w'
     go_simp
     with_reducible rfl
    rotate_left
    ·simp only [Act.put, List.setIfInBounds_toArray, List.set_cons_zero, List.set_cons_succ, i64_w, i32_w]
     rfl
    refine pure_ (i := 11) (N := some 53) (v := ?_) (a' := ?_) #[true, false, true, false, true, false, false, true, false, true, false, true, false, false, false, false] rfl rfl (any_of HT_.out (by kernel_rfl)) (fun _ _ _ h => h) (Or.inl ⟨by rfl, ?_⟩) ?_ ?_
    rotate_left
    ·intro w'
     go_simp
     with_reducible rfl
    rotate_left
    ·simp only [Act.put, List.setIfInBounds_toArray, List.set_cons_zero, List.set_cons_succ, i64_w, i32_w]
     rfl
    refine inv_at [1, 3, 5, 6, 8, 10, 12, 13, 14, 15] (fun a0_ b a w' => ∃ (v532 : Value) (v535 : Value) (m14_ : Value) (m15_ : Value), a = putSel a0_ b [(1, 43, .string t512), (3, 45, .string t513), (5, 47, .string t514), (6, 48, v532), (8, 50, .string t518), (10, 52, .string t519), (12, 54, .string t520), (13, 55, v535), (14, 11, m14_), (15, 12, m15_)] ∧ (Kd.R Kd.string 9 w' w.heap.size (fun k_ => some k_ ≠ (.slice Ao22 t521.length co22 : Value).ownBlock) (.slice Ao17 t515.length co17) t515) ∧ (Kd.R Kd.string 9 w' w.heap.size (fun k_ => some k_ ≠ (.slice Ao17 t515.length co17 : Value).ownBlock) (.slice Ao22 t521.length co22) t521) ∧ (w'.heap[gb510]? = some (.cells #[.string t512, .string t513, .string t514, .slice Ao17 t515.length co17] 36 (0, 0))) ∧ (w'.heap[gb511]? = some (.cells #[.string t518, .string t519, .string t520, .slice Ao22 t521.length co22] 36 (0, 0))) ∧ (Below w.heap.size w w') ∧ (b 6 = true → Kd.R Kd.string 9 w' w.heap.size (fun k_ => some k_ ≠ (.slice Ao17 t515.length co17 : Value).ownBlock ∧ some k_ ≠ (.slice Ao22 t521.length co22 : Value).ownBlock) v532 y531) ∧ (b 13 = true → Kd.R Kd.string 9 w' w.heap.size (fun k_ => some k_ ≠ (.slice Ao17 t515.length co17 : Value).ownBlock ∧ some k_ ≠ (.slice Ao22 t521.length co22 : Value).ownBlock) v535 y534) ∧ (b 14 = true → (m14_ : Value) = v532) ∧ (b 15 = true → (m15_ : Value) = v535)) HT_.out HW_.out (by kernel_rfl) (by kernel_rfl) ?_ ?_ ?_
    ·exact ⟨.bool false, .bool false, .bool false, .bool false, by simp only [putSel, Bool.false_eq_true, if_false], HO_511003.out, HO_512003.out, BK510.out, BK511.out, HB.out, fun h_ => absurd h_ (by decide), fun h_ => absurd h_ (by decide), fun h_ => absurd h_ (by decide), fun h_ => absurd h_ (by decide)⟩
    ·skip
     clear BK510 BK511 HB HO_511003 HO_512003
     refine steps_cons ?_ ?_
     ·rintro b a w' ⟨v532, v535, m14_, m15_, ha, Q_HO_511003, Q_HO_512003, Q_BK510, Q_BK511, Q_HB, Q_HO533, Q_HO536, Q_X14_, Q_X15_⟩ hb_ hon hoff
      refine ⟨_, rfl, fun K hK => ?_⟩
      have e42 : a.tmps[42]? = some (.pointer (some ⟨gb510, 0, none⟩)) := by rw [ha]; exact (putSel_off rfl).trans rfl
      replace ha := Aside0.mk ha
      have HO_511003 := Aside0.mk Q_HO_511003
      have HO_512003 := Aside0.mk Q_HO_512003
      have BK510 := Aside0.mk Q_BK510
      have BK511 := Aside0.mk Q_BK511
      have HB := Aside0.mk Q_HB
      have hc0_ : w'.cell? ⟨gb510, 0, none⟩ = some (.string t512) := (blk_cell BK510.out 0).trans rfl
      have hc1_ : w'.cell? ⟨gb510, 1, none⟩ = some (.string t513) := (blk_cell BK510.out 1).trans rfl
      have hc2_ : w'.cell? ⟨gb510, 2, none⟩ = some (.string t514) := (blk_cell BK510.out 2).trans rfl
      have hc3_ : w'.cell? ⟨gb510, 3, none⟩ = some (.slice Ao17 t515.length co17) := (blk_cell BK510.out 3).trans rfl
      refine value_ (w1 := w') (v := .string t512) (by rfl) rfl ?_ ?_
      ·go_simp
       (try simp only [i64_w])
       try rfl
      refine hK.out _ _ ⟨v532, v535, m14_, m15_, (by rw [ha.out]; exact putSel_upk 0 hb_ rfl rfl rfl), Q_HO_511003, Q_HO_512003, Q_BK510, Q_BK511, Q_HB, fun h0_ => absurd ((hoff 6 (by kernel_rfl)).symm.trans h0_) (by decide), Q_HO536, fun h0_ => absurd ((hoff 14 (by kernel_rfl)).symm.trans h0_) (by decide), fun h0_ => absurd ((hoff 15 (by kernel_rfl)).symm.trans h0_) (by decide)⟩
     refine steps_cons ?_ ?_
     ·rintro b a w' ⟨v532, v535, m14_, m15_, ha, Q_HO_511003, Q_HO_512003, Q_BK510, Q_BK511, Q_HB, Q_HO533, Q_HO536, Q_X14_, Q_X15_⟩ hb_ hon hoff
      refine ⟨_, rfl, fun K hK => ?_⟩
      have e44 : a.tmps[44]? = some (.pointer (some ⟨gb510, 1, none⟩)) := by rw [ha]; exact (putSel_off rfl).trans rfl
      replace ha := Aside0.mk ha
      have HO_511003 := Aside0.mk Q_HO_511003
      have HO_512003 := Aside0.mk Q_HO_512003
      have BK510 := Aside0.mk Q_BK510
      have BK511 := Aside0.mk Q_BK511
      have HB := Aside0.mk Q_HB
      have hc0_ : w'.cell? ⟨gb510, 0, none⟩ = some (.string t512) := (blk_cell BK510.out 0).trans rfl
      have hc1_ : w'.cell? ⟨gb510, 1, none⟩ = some (.string t513) := (blk_cell BK510.out 1).trans rfl
      have hc2_ : w'.cell? ⟨gb510, 2, none⟩ = some (.string t514) := (blk_cell BK510.out 2).trans rfl
      have hc3_ : w'.cell? ⟨gb510, 3, none⟩ = some (.slice Ao17 t515.length co17) := (blk_cell BK510.out 3).trans rfl
      refine value_ (w1 := w') (v := .string t513) (by rfl) rfl ?_ ?_
      ·go_simp
       (try simp only [i64_w])
       try rfl
      refine hK.out _ _ ⟨v532, v535, m14_, m15_, (by rw [ha.out]; exact putSel_upk 1 hb_ rfl rfl rfl), Q_HO_511003, Q_HO_512003, Q_BK510, Q_BK511, Q_HB, fun h0_ => absurd ((hoff 6 (by kernel_rfl)).symm.trans h0_) (by decide), Q_HO536, fun h0_ => absurd ((hoff 14 (by kernel_rfl)).symm.trans h0_) (by decide), fun h0_ => absurd ((hoff 15 (by kernel_rfl)).symm.trans h0_) (by decide)⟩
     refine steps_cons ?_ ?_
     ·rintro b a w' ⟨v532, v535, m14_, m15_, ha, Q_HO_511003, Q_HO_512003, Q_BK510, Q_BK511, Q_HB, Q_HO533, Q_HO536, Q_X14_, Q_X15_⟩ hb_ hon hoff
      refine ⟨_, rfl, fun K hK => ?_⟩
      have e46 : a.tmps[46]? = some (.pointer (some ⟨gb510, 2, none⟩)) := by rw [ha]; exact (putSel_off rfl).trans rfl
      replace ha := Aside0.mk ha
      have HO_511003 := Aside0.mk Q_HO_511003
      have HO_512003 := Aside0.mk Q_HO_512003
      have BK510 := Aside0.mk Q_BK510
      have BK511 := Aside0.mk Q_BK511
      have HB := Aside0.mk Q_HB
      have hc0_ : w'.cell? ⟨gb510, 0, none⟩ = some (.string t512) := (blk_cell BK510.out 0).trans rfl
      have hc1_ : w'.cell? ⟨gb510, 1, none⟩ = some (.string t513) := (blk_cell BK510.out 1).trans rfl
      have hc2_ : w'.cell? ⟨gb510, 2, none⟩ = some (.string t514) := (blk_cell BK510.out 2).trans rfl
      have hc3_ : w'.cell? ⟨gb510, 3, none⟩ = some (.slice Ao17 t515.length co17) := (blk_cell BK510.out 3).trans rfl
      refine value_ (w1 := w') (v := .string t514) (by rfl) rfl ?_ ?_
      ·go_simp
       (try simp only [i64_w])
       try rfl
      refine hK.out _ _ ⟨v532, v535, m14_, m15_, (by rw [ha.out]; exact putSel_upk 2 hb_ rfl rfl rfl), Q_HO_511003, Q_HO_512003, Q_BK510, Q_BK511, Q_HB, fun h0_ => absurd ((hoff 6 (by kernel_rfl)).symm.trans h0_) (by decide), Q_HO536, fun h0_ => absurd ((hoff 14 (by kernel_rfl)).symm.trans h0_) (by decide), fun h0_ => absurd ((hoff 15 (by kernel_rfl)).symm.trans h0_) (by decide)⟩
     refine steps_cons ?_ ?_
     ·rintro b a w' ⟨v532, v535, m14_, m15_, ha, Q_HO_511003, Q_HO_512003, Q_BK510, Q_BK511, Q_HB, Q_HO533, Q_HO536, Q_X14_, Q_X15_⟩ hb_ hon hoff
      refine ⟨_, rfl, fun K hK => ?_⟩
      have e43 : a.tmps[43]? = some (.string t512) := by rw [ha]; exact putSel_on (e := (1, 43, .string t512)) 0 rfl rfl (hon 1 (by kernel_rfl)) rfl
      have e45 : a.tmps[45]? = some (.string t513) := by rw [ha]; exact putSel_on (e := (3, 45, .string t513)) 1 rfl rfl (hon 3 (by kernel_rfl)) rfl
      have e47 : a.tmps[47]? = some (.string t514) := by rw [ha]; exact putSel_on (e := (5, 47, .string t514)) 2 rfl rfl (hon 5 (by kernel_rfl)) rfl
      replace ha := Aside0.mk ha
      have HO_511003 := Aside0.mk Q_HO_511003
      have HO_512003 := Aside0.mk Q_HO_512003
      have BK510 := Aside0.mk Q_BK510
      have BK511 := Aside0.mk Q_BK511
      have HB := Aside0.mk Q_HB
      refine Kd.R_lit_step Kd.string _ 9 ?hg (N := 48) ?hd (xs := ([t512, t513, t514] : List ByteArray)) (inner := [.string t512, .string t513, .string t514]) (ok := fun _ => True) (okp := fun _ => True) ?hr ?hp (fun _ hk => hk) trivial (Below.refl _ _) (Nat.le_refl _) (by simp) ?_; (case hd => rfl); (case hg => rfl); (case hr => first | (go_simp; done) | (go_simp; rfl)); (case hp => exact (Reps.one (show Kd.M Kd.string _ _ _ t512 [.string t512] from rfl) (Reps.one (show Kd.M Kd.string _ _ _ t513 [.string t513] from rfl) (Reps.one (show Kd.M Kd.string _ _ _ t514 [.string t514] from rfl) (Reps.none _ _)))))
      intro v532 w35 ho36 hb hg_ hnew_
      clear hg_ hnew_
      (first | rw [← Ny531.out] at ho36 | (simp only [Int.reduceToNat] at ho36; rw [← Ny531.out] at ho36))
      have n0_ := Aside0.mk (Kd.R_elder' (by (with_reducible repeat (first | apply Kd.R_alloc | apply Kd.R_drewN | apply Kd.R_drew)); exact HO_511003.out) (Kd.R_base ho36) hb)
      have n1_ := Aside0.mk (Kd.R_elder' (by (with_reducible repeat (first | apply Kd.R_alloc | apply Kd.R_drewN | apply Kd.R_drew)); exact HO_512003.out) (Kd.R_base ho36) hb)
      have n2_ := Aside0.mk (Kd.R_lower (Kd.R_new' (Kd.R_new' ho36 (Kd.R_lt (by (with_reducible repeat (first | apply Kd.R_alloc | apply Kd.R_drewN | apply Kd.R_drew)); exact HO_511003.out))) (Kd.R_lt (by (with_reducible repeat (first | apply Kd.R_alloc | apply Kd.R_drewN | apply Kd.R_drew)); exact HO_512003.out))) (below_size (by repeat (first | (with_reducible first | exact HB.out | apply below_alloc | apply pw_below_drewN | apply below_drew1 | refine below_set ?_ GE510.out | refine below_set ?_ GE511.out) | exact HB.out))))
      have n3_ := Aside0.mk (blk_below (g := gb510) (o := .cells #[.string t512, .string t513, .string t514, .slice Ao17 t515.length co17] 36 (0, 0)) (by (with_reducible repeat (first | refine blk_drewN ?_ _ | refine blk_drew ?_ | refine blk_alloc ?_ _)); exact BK510.out) hb)
      have n4_ := Aside0.mk (blk_below (g := gb511) (o := .cells #[.string t518, .string t519, .string t520, .slice Ao22 t521.length co22] 36 (0, 0)) (by (with_reducible repeat (first | refine blk_drewN ?_ _ | refine blk_drew ?_ | refine blk_alloc ?_ _)); exact BK511.out) hb)
      have n5_ := Aside0.mk (below_step (by repeat (first | (with_reducible first | exact HB.out | apply below_alloc | apply pw_below_drewN | apply below_drew1 | refine below_set ?_ GE510.out | refine below_set ?_ GE511.out) | exact HB.out)) hb)
      have z_HO536 := fun (h0_ : b 13 = true) => (show Kd.R Kd.string 9 w35 w.heap.size (fun k_ => some k_ ≠ (.slice Ao17 t515.length co17 : Value).ownBlock ∧ some k_ ≠ (.slice Ao22 t521.length co22 : Value).ownBlock) v535 y534 from by first | exact (Kd.R_elder' (by (with_reducible repeat (first | apply Kd.R_alloc | apply Kd.R_drewN | apply Kd.R_drew)); exact (Q_HO536 h0_)) (Kd.R_base ho36) hb) | exact Kd.R_mono (Kd.R_elder' (by (with_reducible repeat (first | apply Kd.R_alloc | apply Kd.R_drewN | apply Kd.R_drew)); exact (Q_HO536 h0_)) (Kd.R_base ho36) hb) (fun _ h_ => by first | trivial | exact h_ | exact h_.1))
      clear HO_511003
      clear HO_512003
      clear BK510
      clear BK511
      clear HB
      have HO_511003 := n0_
      have HO_512003 := n1_
      have HO533 := n2_
      have BK510 := n3_
      have BK511 := n4_
      have HB := n5_
      clear n0_ n1_ n2_ n3_ n4_ n5_
      clear hb ho36
      refine hK.out _ _ ⟨v532, v535, m14_, m15_, (by rw [ha.out]; exact putSel_upk 3 hb_ rfl rfl rfl), (by (with_reducible repeat (first | apply Kd.R_alloc | apply Kd.R_drewN | apply Kd.R_drew)); exact Kd.R_mono HO_511003.out (fun _ hk => by first | exact ⟨hk.2, hk.1⟩ | exact hk.2 | exact hk.1)), (by (with_reducible repeat (first | apply Kd.R_alloc | apply Kd.R_drewN | apply Kd.R_drew)); exact Kd.R_mono HO_512003.out (fun _ hk => by first | exact ⟨hk.2, hk.1⟩ | exact hk.2 | exact hk.1)), (by (with_reducible repeat (first | refine blk_drewN ?_ _ | refine blk_drew ?_ | refine blk_alloc ?_ _)); exact BK510.out), (by (with_reducible repeat (first | refine blk_drewN ?_ _ | refine blk_drew ?_ | refine blk_alloc ?_ _)); exact BK511.out), (by repeat (first | (with_reducible first | exact HB.out | apply below_alloc | apply pw_below_drewN | apply below_drew1 | refine below_set ?_ GE510.out | refine below_set ?_ GE511.out) | exact HB.out)), fun _ => (by (with_reducible repeat (first | apply Kd.R_alloc | apply Kd.R_drewN | apply Kd.R_drew)); exact Kd.R_mono HO533.out (fun _ hk => ⟨hk.1.2, hk.2⟩)), z_HO536, fun h0_ => absurd ((hoff 14 (by kernel_rfl)).symm.trans h0_) (by decide), fun h0_ => absurd ((hoff 15 (by kernel_rfl)).symm.trans h0_) (by decide)⟩
     refine steps_cons ?_ ?_
     ·rintro b a w' ⟨v532, v535, m14_, m15_, ha, Q_HO_511003, Q_HO_512003, Q_BK510, Q_BK511, Q_HB, Q_HO533, Q_HO536, Q_X14_, Q_X15_⟩ hb_ hon hoff
      refine ⟨_, rfl, fun K hK => ?_⟩
      have e49 : a.tmps[49]? = some (.pointer (some ⟨gb511, 0, none⟩)) := by rw [ha]; exact (putSel_off rfl).trans rfl
      replace ha := Aside0.mk ha
      have HO_511003 := Aside0.mk Q_HO_511003
      have HO_512003 := Aside0.mk Q_HO_512003
      have BK510 := Aside0.mk Q_BK510
      have BK511 := Aside0.mk Q_BK511
      have HB := Aside0.mk Q_HB
      have hc0_ : w'.cell? ⟨gb511, 0, none⟩ = some (.string t518) := (blk_cell BK511.out 0).trans rfl
      have hc1_ : w'.cell? ⟨gb511, 1, none⟩ = some (.string t519) := (blk_cell BK511.out 1).trans rfl
      have hc2_ : w'.cell? ⟨gb511, 2, none⟩ = some (.string t520) := (blk_cell BK511.out 2).trans rfl
      have hc3_ : w'.cell? ⟨gb511, 3, none⟩ = some (.slice Ao22 t521.length co22) := (blk_cell BK511.out 3).trans rfl
      refine value_ (w1 := w') (v := .string t518) (by rfl) rfl ?_ ?_
      ·go_simp
       (try simp only [i64_w])
       try rfl
      refine hK.out _ _ ⟨v532, v535, m14_, m15_, (by rw [ha.out]; exact putSel_upk 4 hb_ rfl rfl rfl), Q_HO_511003, Q_HO_512003, Q_BK510, Q_BK511, Q_HB, Q_HO533, fun h0_ => absurd ((hoff 13 (by kernel_rfl)).symm.trans h0_) (by decide), Q_X14_, fun h0_ => absurd ((hoff 15 (by kernel_rfl)).symm.trans h0_) (by decide)⟩
     refine steps_cons ?_ ?_
     ·rintro b a w' ⟨v532, v535, m14_, m15_, ha, Q_HO_511003, Q_HO_512003, Q_BK510, Q_BK511, Q_HB, Q_HO533, Q_HO536, Q_X14_, Q_X15_⟩ hb_ hon hoff
      refine ⟨_, rfl, fun K hK => ?_⟩
      have e51 : a.tmps[51]? = some (.pointer (some ⟨gb511, 1, none⟩)) := by rw [ha]; exact (putSel_off rfl).trans rfl
      replace ha := Aside0.mk ha
      have HO_511003 := Aside0.mk Q_HO_511003
      have HO_512003 := Aside0.mk Q_HO_512003
      have BK510 := Aside0.mk Q_BK510
      have BK511 := Aside0.mk Q_BK511
      have HB := Aside0.mk Q_HB
      have hc0_ : w'.cell? ⟨gb511, 0, none⟩ = some (.string t518) := (blk_cell BK511.out 0).trans rfl
      have hc1_ : w'.cell? ⟨gb511, 1, none⟩ = some (.string t519) := (blk_cell BK511.out 1).trans rfl
      have hc2_ : w'.cell? ⟨gb511, 2, none⟩ = some (.string t520) := (blk_cell BK511.out 2).trans rfl
      have hc3_ : w'.cell? ⟨gb511, 3, none⟩ = some (.slice Ao22 t521.length co22) := (blk_cell BK511.out 3).trans rfl
      refine value_ (w1 := w') (v := .string t519) (by rfl) rfl ?_ ?_
      ·go_simp
       (try simp only [i64_w])
       try rfl
      refine hK.out _ _ ⟨v532, v535, m14_, m15_, (by rw [ha.out]; exact putSel_upk 5 hb_ rfl rfl rfl), Q_HO_511003, Q_HO_512003, Q_BK510, Q_BK511, Q_HB, Q_HO533, fun h0_ => absurd ((hoff 13 (by kernel_rfl)).symm.trans h0_) (by decide), Q_X14_, fun h0_ => absurd ((hoff 15 (by kernel_rfl)).symm.trans h0_) (by decide)⟩
     refine steps_cons ?_ ?_
     ·rintro b a w' ⟨v532, v535, m14_, m15_, ha, Q_HO_511003, Q_HO_512003, Q_BK510, Q_BK511, Q_HB, Q_HO533, Q_HO536, Q_X14_, Q_X15_⟩ hb_ hon hoff
      refine ⟨_, rfl, fun K hK => ?_⟩
      have e53 : a.tmps[53]? = some (.pointer (some ⟨gb511, 2, none⟩)) := by rw [ha]; exact (putSel_off rfl).trans rfl
      replace ha := Aside0.mk ha
      have HO_511003 := Aside0.mk Q_HO_511003
      have HO_512003 := Aside0.mk Q_HO_512003
      have BK510 := Aside0.mk Q_BK510
      have BK511 := Aside0.mk Q_BK511
      have HB := Aside0.mk Q_HB
      have hc0_ : w'.cell? ⟨gb511, 0, none⟩ = some (.string t518) := (blk_cell BK511.out 0).trans rfl
      have hc1_ : w'.cell? ⟨gb511, 1, none⟩ = some (.string t519) := (blk_cell BK511.out 1).trans rfl
      have hc2_ : w'.cell? ⟨gb511, 2, none⟩ = some (.string t520) := (blk_cell BK511.out 2).trans rfl
      have hc3_ : w'.cell? ⟨gb511, 3, none⟩ = some (.slice Ao22 t521.length co22) := (blk_cell BK511.out 3).trans rfl
      refine value_ (w1 := w') (v := .string t520) (by rfl) rfl ?_ ?_
      ·go_simp
       (try simp only [i64_w])
       try rfl
      refine hK.out _ _ ⟨v532, v535, m14_, m15_, (by rw [ha.out]; exact putSel_upk 6 hb_ rfl rfl rfl), Q_HO_511003, Q_HO_512003, Q_BK510, Q_BK511, Q_HB, Q_HO533, fun h0_ => absurd ((hoff 13 (by kernel_rfl)).symm.trans h0_) (by decide), Q_X14_, fun h0_ => absurd ((hoff 15 (by kernel_rfl)).symm.trans h0_) (by decide)⟩
     refine steps_cons ?_ ?_
     ·rintro b a w' ⟨v532, v535, m14_, m15_, ha, Q_HO_511003, Q_HO_512003, Q_BK510, Q_BK511, Q_HB, Q_HO533, Q_HO536, Q_X14_, Q_X15_⟩ hb_ hon hoff
      refine ⟨_, rfl, fun K hK => ?_⟩
      have e50 : a.tmps[50]? = some (.string t518) := by rw [ha]; exact putSel_on (e := (8, 50, .string t518)) 4 rfl rfl (hon 8 (by kernel_rfl)) rfl
      have e52 : a.tmps[52]? = some (.string t519) := by rw [ha]; exact putSel_on (e := (10, 52, .string t519)) 5 rfl rfl (hon 10 (by kernel_rfl)) rfl
      have e54 : a.tmps[54]? = some (.string t520) := by rw [ha]; exact putSel_on (e := (12, 54, .string t520)) 6 rfl rfl (hon 12 (by kernel_rfl)) rfl
      replace ha := Aside0.mk ha
      have HO_511003 := Aside0.mk Q_HO_511003
      have HO_512003 := Aside0.mk Q_HO_512003
      have BK510 := Aside0.mk Q_BK510
      have BK511 := Aside0.mk Q_BK511
      have HB := Aside0.mk Q_HB
      refine Kd.R_lit_step Kd.string _ 9 ?hg (N := 55) ?hd (xs := ([t518, t519, t520] : List ByteArray)) (inner := [.string t518, .string t519, .string t520]) (ok := fun _ => True) (okp := fun _ => True) ?hr ?hp (fun _ hk => hk) trivial (Below.refl _ _) (Nat.le_refl _) (by simp) ?_; (case hd => rfl); (case hg => rfl); (case hr => first | (go_simp; done) | (go_simp; rfl)); (case hp => exact (Reps.one (show Kd.M Kd.string _ _ _ t518 [.string t518] from rfl) (Reps.one (show Kd.M Kd.string _ _ _ t519 [.string t519] from rfl) (Reps.one (show Kd.M Kd.string _ _ _ t520 [.string t520] from rfl) (Reps.none _ _)))))
      intro v535 w35 ho36 hb hg_ hnew_
      clear hg_ hnew_
      (first | rw [← Ny534.out] at ho36 | (simp only [Int.reduceToNat] at ho36; rw [← Ny534.out] at ho36))
      have n0_ := Aside0.mk (Kd.R_elder' (by (with_reducible repeat (first | apply Kd.R_alloc | apply Kd.R_drewN | apply Kd.R_drew)); exact HO_511003.out) (Kd.R_base ho36) hb)
      have n1_ := Aside0.mk (Kd.R_elder' (by (with_reducible repeat (first | apply Kd.R_alloc | apply Kd.R_drewN | apply Kd.R_drew)); exact HO_512003.out) (Kd.R_base ho36) hb)
      have n2_ := Aside0.mk (Kd.R_lower (Kd.R_new' (Kd.R_new' ho36 (Kd.R_lt (by (with_reducible repeat (first | apply Kd.R_alloc | apply Kd.R_drewN | apply Kd.R_drew)); exact HO_511003.out))) (Kd.R_lt (by (with_reducible repeat (first | apply Kd.R_alloc | apply Kd.R_drewN | apply Kd.R_drew)); exact HO_512003.out))) (below_size (by repeat (first | (with_reducible first | exact HB.out | apply below_alloc | apply pw_below_drewN | apply below_drew1 | refine below_set ?_ GE510.out | refine below_set ?_ GE511.out) | exact HB.out))))
      have n3_ := Aside0.mk (blk_below (g := gb510) (o := .cells #[.string t512, .string t513, .string t514, .slice Ao17 t515.length co17] 36 (0, 0)) (by (with_reducible repeat (first | refine blk_drewN ?_ _ | refine blk_drew ?_ | refine blk_alloc ?_ _)); exact BK510.out) hb)
      have n4_ := Aside0.mk (blk_below (g := gb511) (o := .cells #[.string t518, .string t519, .string t520, .slice Ao22 t521.length co22] 36 (0, 0)) (by (with_reducible repeat (first | refine blk_drewN ?_ _ | refine blk_drew ?_ | refine blk_alloc ?_ _)); exact BK511.out) hb)
      have n5_ := Aside0.mk (below_step (by repeat (first | (with_reducible first | exact HB.out | apply below_alloc | apply pw_below_drewN | apply below_drew1 | refine below_set ?_ GE510.out | refine below_set ?_ GE511.out) | exact HB.out)) hb)
      have z_HO533 := fun (h0_ : b 6 = true) => (show Kd.R Kd.string 9 w35 w.heap.size (fun k_ => some k_ ≠ (.slice Ao17 t515.length co17 : Value).ownBlock ∧ some k_ ≠ (.slice Ao22 t521.length co22 : Value).ownBlock) v532 y531 from by first | exact (Kd.R_elder' (by (with_reducible repeat (first | apply Kd.R_alloc | apply Kd.R_drewN | apply Kd.R_drew)); exact (Q_HO533 h0_)) (Kd.R_base ho36) hb) | exact Kd.R_mono (Kd.R_elder' (by (with_reducible repeat (first | apply Kd.R_alloc | apply Kd.R_drewN | apply Kd.R_drew)); exact (Q_HO533 h0_)) (Kd.R_base ho36) hb) (fun _ h_ => by first | trivial | exact h_ | exact h_.1))
      clear HO_511003
      clear HO_512003
      clear BK510
      clear BK511
      clear HB
      have HO_511003 := n0_
      have HO_512003 := n1_
      have HO536 := n2_
      have BK510 := n3_
      have BK511 := n4_
      have HB := n5_
      clear n0_ n1_ n2_ n3_ n4_ n5_
      clear hb ho36
      refine hK.out _ _ ⟨v532, v535, m14_, m15_, (by rw [ha.out]; exact putSel_upk 7 hb_ rfl rfl rfl), (by (with_reducible repeat (first | apply Kd.R_alloc | apply Kd.R_drewN | apply Kd.R_drew)); exact Kd.R_mono HO_511003.out (fun _ hk => by first | exact ⟨hk.2, hk.1⟩ | exact hk.2 | exact hk.1)), (by (with_reducible repeat (first | apply Kd.R_alloc | apply Kd.R_drewN | apply Kd.R_drew)); exact Kd.R_mono HO_512003.out (fun _ hk => by first | exact ⟨hk.2, hk.1⟩ | exact hk.2 | exact hk.1)), (by (with_reducible repeat (first | refine blk_drewN ?_ _ | refine blk_drew ?_ | refine blk_alloc ?_ _)); exact BK510.out), (by (with_reducible repeat (first | refine blk_drewN ?_ _ | refine blk_drew ?_ | refine blk_alloc ?_ _)); exact BK511.out), (by repeat (first | (with_reducible first | exact HB.out | apply below_alloc | apply pw_below_drewN | apply below_drew1 | refine below_set ?_ GE510.out | refine below_set ?_ GE511.out) | exact HB.out)), z_HO533, fun _ => (by (with_reducible repeat (first | apply Kd.R_alloc | apply Kd.R_drewN | apply Kd.R_drew)); exact Kd.R_mono HO536.out (fun _ hk => ⟨hk.1.2, hk.2⟩)), Q_X14_, fun h0_ => absurd ((hoff 15 (by kernel_rfl)).symm.trans h0_) (by decide)⟩
     refine steps_cons ?_ ?_
     ·rintro b a w' ⟨v532, v535, m14_, m15_, ha, Q_HO_511003, Q_HO_512003, Q_BK510, Q_BK511, Q_HB, Q_HO533, Q_HO536, Q_X14_, Q_X15_⟩ hb_ hon hoff
      refine ⟨_, rfl, fun K hK => ?_⟩
      have e48 : a.tmps[48]? = some (v532) := by rw [ha]; exact putSel_on (e := (6, 48, v532)) 3 rfl rfl (hon 6 (by kernel_rfl)) rfl
      replace ha := Aside0.mk ha
      have HO_511003 := Aside0.mk Q_HO_511003
      have HO_512003 := Aside0.mk Q_HO_512003
      have BK510 := Aside0.mk Q_BK510
      have BK511 := Aside0.mk Q_BK511
      have HB := Aside0.mk Q_HB
      have HO533 := Aside0.mk (Q_HO533 (hon 6 (by kernel_rfl)))
      refine value_ (w1 := w') (v := v532) (by rfl) rfl ?_ ?_
      ·go_simp
       (try simp only [i64_w])
       try rfl
      refine hK.out _ _ ⟨v532, v535, (v532), m15_, (by rw [ha.out]; exact putSel_upk 8 hb_ rfl rfl rfl), Q_HO_511003, Q_HO_512003, Q_BK510, Q_BK511, Q_HB, Q_HO533, Q_HO536, fun _ => rfl, fun h0_ => absurd ((hoff 15 (by kernel_rfl)).symm.trans h0_) (by decide)⟩
     refine steps_cons ?_ ?_
     ·rintro b a w' ⟨v532, v535, m14_, m15_, ha, Q_HO_511003, Q_HO_512003, Q_BK510, Q_BK511, Q_HB, Q_HO533, Q_HO536, Q_X14_, Q_X15_⟩ hb_ hon hoff
      refine ⟨_, rfl, fun K hK => ?_⟩
      have e55 : a.tmps[55]? = some (v535) := by rw [ha]; exact putSel_on (e := (13, 55, v535)) 7 rfl rfl (hon 13 (by kernel_rfl)) rfl
      replace ha := Aside0.mk ha
      have HO_511003 := Aside0.mk Q_HO_511003
      have HO_512003 := Aside0.mk Q_HO_512003
      have BK510 := Aside0.mk Q_BK510
      have BK511 := Aside0.mk Q_BK511
      have HB := Aside0.mk Q_HB
      have HO533 := Aside0.mk (Q_HO533 (hon 6 (by kernel_rfl)))
      have HO536 := Aside0.mk (Q_HO536 (hon 13 (by kernel_rfl)))
      refine value_ (w1 := w') (v := v535) (by rfl) rfl ?_ ?_
      ·go_simp
       (try simp only [i64_w])
       try rfl
      refine hK.out _ _ ⟨v532, v535, m14_, (v535), (by rw [ha.out]; exact putSel_upk 9 hb_ rfl rfl rfl), Q_HO_511003, Q_HO_512003, Q_BK510, Q_BK511, Q_HB, Q_HO533, Q_HO536, Q_X14_, fun _ => rfl⟩
     exact steps_nil
    rintro b a w39 hall ⟨v532, v535, m14_, m15_, ha, Q_HO_511003, Q_HO_512003, Q_BK510, Q_BK511, Q_HB, Q_HO533, Q_HO536, Q_X14_, Q_X15_⟩
    clear BK510 BK511 HB HO_511003 HO_512003
    have hb1_ := hall 1 (by kernel_rfl)
    have hb3_ := hall 3 (by kernel_rfl)
    have hb5_ := hall 5 (by kernel_rfl)
    have hb6_ := hall 6 (by kernel_rfl)
    have hb8_ := hall 8 (by kernel_rfl)
    have hb10_ := hall 10 (by kernel_rfl)
    have hb12_ := hall 12 (by kernel_rfl)
    have hb13_ := hall 13 (by kernel_rfl)
    have hb14_ := hall 14 (by kernel_rfl)
    have hb15_ := hall 15 (by kernel_rfl)
    subst ha
    obtain rfl := (Q_X14_ hb14_).symm
    obtain rfl := (Q_X15_ hb15_).symm
    simp only [putSel, hb1_, hb3_, hb5_, hb6_, hb8_, hb10_, hb12_, hb13_, hb14_, hb15_, if_true, Act.put, List.setIfInBounds_toArray, List.set_cons_zero, List.set_cons_succ]
    have HO_511003 := Aside0.mk Q_HO_511003
    clear Q_HO_511003
    have HO_512003 := Aside0.mk Q_HO_512003
    clear Q_HO_512003
    have BK510 := Aside0.mk Q_BK510
    clear Q_BK510
    have BK511 := Aside0.mk Q_BK511
    clear Q_BK511
    have HB := Aside0.mk Q_HB
    clear Q_HB
    have HO533 := Aside0.mk (Q_HO533 hb6_)
    clear Q_HO533
    have HO536 := Aside0.mk (Q_HO536 hb13_)
    clear Q_HO536
    clear hall hb1_ hb3_ hb5_ hb6_ hb8_ hb10_ hb12_ hb13_ hb14_ hb15_
    try go_wp2
    go_loopg [13] kj7 (fun kq v13 w' => ∃ (x13_2 : Int), v13 = .int .i64 x13_2 ∧ Aside0 (graftwoodlaw03_VersionCores.l0 kq t528 t529 y531 y534 x13_2 t512 t513 t514 t515 t518 t519 t520 t521 = some r) ∧ Aside0 (kq ≤ kj7) ∧ Aside0 (Kd.R Kd.string 9 w' w.heap.size (fun k_ => some k_ ≠ ((.slice Ao17 t515.length co17) : Value).ownBlock ∧ some k_ ≠ ((.slice Ao22 t521.length co22) : Value).ownBlock) v532 y531) ∧ Aside0 (Kd.R Kd.string 9 w' w.heap.size (fun k_ => some k_ ≠ ((.slice Ao17 t515.length co17) : Value).ownBlock ∧ some k_ ≠ ((.slice Ao22 t521.length co22) : Value).ownBlock) v535 y534) ∧ Aside0 (Kd.R Kd.string 9 w' w.heap.size (fun k_ => some k_ ≠ ((.slice Ao22 t521.length co22) : Value).ownBlock) (.slice Ao17 t515.length co17) t515) ∧ Aside0 (Kd.R Kd.string 9 w' w.heap.size (fun k_ => some k_ ≠ ((.slice Ao17 t515.length co17) : Value).ownBlock) (.slice Ao22 t521.length co22) t521) ∧ Aside0 (w'.heap[gb510]? = some (.cells #[.string t512, .string t513, .string t514, (.slice Ao17 t515.length co17)] 36 (0, 0))) ∧ Aside0 (w'.heap[gb511]? = some (.cells #[.string t518, .string t519, .string t520, (.slice Ao22 t521.length co22)] 36 (0, 0))) ∧ Aside0 (Below w.heap.size w w'))
    case atStart => exact ⟨(0), (by first | rfl | (simp; done) | (simp [*]; done)), H', ⟨Nat.le_refl _⟩, ⟨by (with_reducible repeat (first | apply Kd.R_alloc | apply Kd.R_drewN | apply Kd.R_drew)); exact HO533.out⟩, ⟨by (with_reducible repeat (first | apply Kd.R_alloc | apply Kd.R_drewN | apply Kd.R_drew)); exact HO536.out⟩, ⟨by (with_reducible repeat (first | apply Kd.R_alloc | apply Kd.R_drewN | apply Kd.R_drew)); exact HO_511003.out⟩, ⟨by (with_reducible repeat (first | apply Kd.R_alloc | apply Kd.R_drewN | apply Kd.R_drew)); exact HO_512003.out⟩, ⟨by (with_reducible repeat (first | refine blk_drewN ?_ _ | refine blk_drew ?_ | refine blk_alloc ?_ _)); exact BK510.out⟩, ⟨by (with_reducible repeat (first | refine blk_drewN ?_ _ | refine blk_drew ?_ | refine blk_alloc ?_ _)); exact BK511.out⟩, ⟨by repeat (first | (with_reducible first | exact HB.out | apply below_alloc | apply pw_below_drewN | apply below_drew1 | refine below_set ?_ GE510.out | refine below_set ?_ GE511.out) | exact HB.out)⟩⟩
    case round =>
     clear H'
     try clear c1
     try clear c2
     try clear p2
     try clear c3
     try clear c9
     try clear c11
     try clear c13
     try clear c17
     try clear c20
     try clear c24
     try clear c30
     try clear c30b0
     try clear c30b1
     try clear c31
     try clear hcz25_0
     try clear hcz25_1
     try clear hcz25_2
     try clear hcz25_3
     try clear hcz27_0
     try clear hcz27_1
     try clear hcz27_2
     try clear hcz27_3
     try clear hfz25_0
     try clear hfz25_1
     try clear hfz25_2
     try clear hfz25_3
     try clear hfz27_0
     try clear hfz27_1
     try clear hfz27_2
     try clear hfz27_3
     try clear p2
     obtain ⟨x13_2, rfl, HA, HK2, HO_11, HO_12, HO_511003, HO_512003, BK510, BK511, HB⟩ := hrel
     cases gk with
     | zero => exact absurd HA.out (by simp [graftwoodlaw03_VersionCores.l0])
     | succ k2 =>
      have H := HA.out
      clear HA
      simp only [graftwoodlaw03_VersionCores.l0] at H
      by_cases c40 : x13_2 < 3
      ·rw [if_pos c40] at H
       have c40b0 : decide (x13_2 < 3) = true := decide_eq_true c40
       clear c40
       by_cases c41 : 0 ≤ x13_2
       ·rw [if_pos c41] at H
        have c41b0 : decide (0 ≤ x13_2) = true := decide_eq_true c41
        clear c41
        by_cases c42 : x13_2 < (y531.length : Int)
        ·rw [if_pos c42] at H
         have c42b0 : decide (x13_2 < (y531.length : Int)) = true := decide_eq_true c42
         clear c42
         by_cases c43 : x13_2 < (y534.length : Int)
         ·rw [if_pos c43] at H
          have c43b0 : decide (x13_2 < (y534.length : Int)) = true := decide_eq_true c43
          clear c43
          by_cases c44 : (rdOf ByteArray.empty y531 x13_2).toList = (rdOf ByteArray.empty y534 x13_2).toList
          ·rw [if_pos c44] at H
           have c44b0 : ((rdOf ByteArray.empty y531 x13_2).toList == (rdOf ByteArray.empty y534 x13_2).toList) = true := beq_iff_eq.mpr c44
           have c44b1 : ((rdOf ByteArray.empty y531 x13_2).toList != (rdOf ByteArray.empty y534 x13_2).toList) = false := bne_eq_false_iff_eq.mpr c44
           clear c44
           have H' := Aside0.mk H
           clear H
           try go_wp2
           have n0_ := Aside0.mk (Kd.R_drew HO_11.out)
           have n1_ := Aside0.mk (Kd.R_drew HO_12.out)
           have n2_ := Aside0.mk (Kd.R_drew HO_511003.out)
           have n3_ := Aside0.mk (Kd.R_drew HO_512003.out)
           have n4_ := Aside0.mk (blk_drew BK510.out)
           have n5_ := Aside0.mk (blk_drew BK511.out)
           have n6_ := Aside0.mk (below_drew1 HB.out)
           clear HO_11
           clear HO_12
           clear HO_511003
           clear HO_512003
           clear BK510
           clear BK511
           clear HB
           have HO_11 := n0_
           have HO_12 := n1_
           have HO_511003 := n2_
           have HO_512003 := n3_
           have BK510 := n4_
           have BK511 := n5_
           have HB := n6_
           clear n0_ n1_ n2_ n3_ n4_ n5_ n6_
           obtain ⟨Ao46, co46, eo46⟩ := Kd.R_slice HO_11.out
           (first | subst eo46 | (injection eo46 with f1_ f2_ f3_; have f4_ := f1_.symm; have f5_ := f3_.symm; clear f1_ f2_ f3_; subst f4_; subst f5_))
           have p537 : 0 ≤ (x13_2 : Int) := of_decide_eq_true (by first | (with_reducible assumption) | assumption)
           have q537 : x13_2 < (y531.length : Int) := of_decide_eq_true (by first | (with_reducible assumption) | assumption)
           obtain ⟨ad537, e537, hx537_0⟩ := Kd.at_string (Kd.R_reads' HO_11.out).2.2 x13_2 p537 q537
           cases e537
           replace p537 := eq_true p537
           replace q537 := eq_true q537
           obtain ⟨Ao47, co47, eo47⟩ := Kd.R_slice HO_12.out
           (first | subst eo47 | (injection eo47 with f1_ f2_ f3_; have f4_ := f1_.symm; have f5_ := f3_.symm; clear f1_ f2_ f3_; subst f4_; subst f5_))
           have p538 : 0 ≤ (x13_2 : Int) := of_decide_eq_true (by first | (with_reducible assumption) | assumption)
           have q538 : x13_2 < (y534.length : Int) := of_decide_eq_true (by first | (with_reducible assumption) | assumption)
           obtain ⟨ad538, e538, hx538_0⟩ := Kd.at_string (Kd.R_reads' HO_12.out).2.2 x13_2 p538 q538
           cases e538
           replace p538 := eq_true p538
           replace q538 := eq_true q538
           refine start_ (n := 9) (S := fun w' => w'.cell? (ad537.add (x13_2).toNat) = some (.string (rdOf ByteArray.empty y531 x13_2)) ∧ w'.cell? (ad538.add (x13_2).toNat) = some (.string (rdOf ByteArray.empty y534 x13_2))) (ds := []) #[false, false, false, false, false, false, false, false, false] (by kernel_rfl) rfl rfl ⟨hx537_0, hx538_0⟩ (fun hHeld => ?_); refine with_tabW graftwoodlaw03_VersionCores.tab11 graftwoodlaw03_VersionCores.bits11 (fun HT_ HW_ => ?_)
           generalize wr.drew = w45 at HO_11 HO_12 HO_511003 HO_512003 BK510 BK511 HB hx537_0 hx538_0 hHeld ⊢
           refine pure_ (i := 0) (N := some 60) (v := ?_) (a' := ?_) #[true, false, false, false, false, false, false, false, false] rfl rfl (any_of HT_.out (by kernel_rfl)) (fun _ _ _ h => h) (Or.inl ⟨by rfl, ?_⟩) ?_ ?_
           rotate_left
           ·intro w'
            go_simp
            with_reducible rfl
           rotate_left
           ·simp only [Act.put, List.setIfInBounds_toArray, List.set_cons_zero, List.set_cons_succ, i64_w, i32_w]
            rfl
           refine pure_ (i := 1) (N := some 61) (v := ?_) (a' := ?_) #[true, true, false, false, false, false, false, false, false] rfl rfl (any_of HT_.out (by kernel_rfl)) (fun _ _ _ h => h) (Or.inl ⟨by rfl, ?_⟩) ?_ ?_
           rotate_left
           ·intro w'
            go_simp
            with_reducible rfl
           rotate_left
           ·simp only [Act.put, List.setIfInBounds_toArray, List.set_cons_zero, List.set_cons_succ, i64_w, i32_w]
            rfl
           refine pure_ (i := 2) (N := some 62) (v := ?_) (a' := ?_) #[true, true, true, false, false, false, false, false, false] rfl rfl (any_of HT_.out (by kernel_rfl)) (fun _ _ _ h => h) (Or.inl ⟨by rfl, ?_⟩) ?_ ?_
           rotate_left
           ·intro w'
            go_simp
            with_reducible rfl
           rotate_left
           ·simp only [Act.put, List.setIfInBounds_toArray, List.set_cons_zero, List.set_cons_succ, i64_w, i32_w]
            rfl
           refine pure_ (i := 4) (N := some 64) (v := ?_) (a' := ?_) #[true, true, true, false, true, false, false, false, false] rfl rfl (any_of HT_.out (by kernel_rfl)) (fun _ _ _ h => h) (Or.inl ⟨by rfl, ?_⟩) ?_ ?_
           rotate_left
           ·intro w'
            go_simp
            with_reducible rfl
           rotate_left
           ·simp only [Act.put, List.setIfInBounds_toArray, List.set_cons_zero, List.set_cons_succ, i64_w, i32_w]
            rfl
           refine pure_ (i := 5) (N := some 65) (v := ?_) (a' := ?_) #[true, true, true, false, true, true, false, false, false] rfl rfl (any_of HT_.out (by kernel_rfl)) (fun _ _ _ h => h) (Or.inl ⟨by rfl, ?_⟩) ?_ ?_
           rotate_left
           ·intro w'
            go_simp
            with_reducible rfl
           rotate_left
           ·simp only [Act.put, List.setIfInBounds_toArray, List.set_cons_zero, List.set_cons_succ, i64_w, i32_w]
            rfl
           refine pure_ (i := 6) (N := some 66) (v := ?_) (a' := ?_) #[true, true, true, false, true, true, true, false, false] rfl rfl (any_of HT_.out (by kernel_rfl)) (fun _ _ _ h => h) (Or.inl ⟨by rfl, ?_⟩) ?_ ?_
           rotate_left
           ·intro w'
            go_simp
            with_reducible rfl
           rotate_left
           ·simp only [Act.put, List.setIfInBounds_toArray, List.set_cons_zero, List.set_cons_succ, i64_w, i32_w]
            rfl
           refine take_ (i := 3) (N := some 63) (v := ?_) (a' := ?_) #[true, true, true, true, true, true, true, false, false] rfl rfl (take_ofW HT_.out HW_.out (by kernel_rfl)) (fun _ _ _ h => h) (Or.inl ⟨by rfl, ?_⟩) hHeld ?_ ?_
           rotate_left
           ·rintro w' ⟨s0, s1⟩
            go_simp
            with_reducible rfl
           rotate_left
           ·simp only [Act.put, List.setIfInBounds_toArray, List.set_cons_zero, List.set_cons_succ, i64_w, i32_w]
            rfl
           refine take_ (i := 7) (N := some 67) (v := ?_) (a' := ?_) #[true, true, true, true, true, true, true, true, false] rfl rfl (take_ofW HT_.out HW_.out (by kernel_rfl)) (fun _ _ _ h => h) (Or.inl ⟨by rfl, ?_⟩) hHeld ?_ ?_
           rotate_left
           ·rintro w' ⟨s0, s1⟩
            go_simp
            with_reducible rfl
           rotate_left
           ·simp only [Act.put, List.setIfInBounds_toArray, List.set_cons_zero, List.set_cons_succ, i64_w, i32_w]
            rfl
           refine pure_ (i := 8) (N := some 68) (v := ?_) (a' := ?_) #[true, true, true, true, true, true, true, true, true] rfl rfl (any_of HT_.out (by kernel_rfl)) (fun _ _ _ h => h) (Or.inl ⟨by rfl, ?_⟩) ?_ ?_
           rotate_left
           ·intro w'
            go_simp
            with_reducible rfl
           rotate_left
           ·simp only [Act.put, List.setIfInBounds_toArray, List.set_cons_zero, List.set_cons_succ, i64_w, i32_w]
            rfl
           refine done_ (done_of HT_.out (by kernel_rfl)) ?_
           try go_wp2
           go_roundg k2
           case measure => have := HJ7.out; have := HK2.out; omega
           case rel => exact ⟨(wrap64 (x13_2 + 1)), (by first | rfl | (simp; done) | (simp [*]; done)), H', ⟨by have := HJ7.out; have := HK2.out; omega⟩, ⟨by (with_reducible repeat (first | apply Kd.R_alloc | apply Kd.R_drewN | apply Kd.R_drew)); exact HO_11.out⟩, ⟨by (with_reducible repeat (first | apply Kd.R_alloc | apply Kd.R_drewN | apply Kd.R_drew)); exact HO_12.out⟩, ⟨by (with_reducible repeat (first | apply Kd.R_alloc | apply Kd.R_drewN | apply Kd.R_drew)); exact HO_511003.out⟩, ⟨by (with_reducible repeat (first | apply Kd.R_alloc | apply Kd.R_drewN | apply Kd.R_drew)); exact HO_512003.out⟩, ⟨by (with_reducible repeat (first | refine blk_drewN ?_ _ | refine blk_drew ?_ | refine blk_alloc ?_ _)); exact BK510.out⟩, ⟨by (with_reducible repeat (first | refine blk_drewN ?_ _ | refine blk_drew ?_ | refine blk_alloc ?_ _)); exact BK511.out⟩, ⟨by repeat (first | (with_reducible first | exact HB.out | apply below_alloc | apply pw_below_drewN | apply below_drew1 | refine below_set ?_ GE510.out | refine below_set ?_ GE511.out) | exact HB.out)⟩⟩
          ·rw [if_neg c44] at H
           have c44b0 : ((rdOf ByteArray.empty y531 x13_2).toList == (rdOf ByteArray.empty y534 x13_2).toList) = false := beq_eq_false_iff_ne.mpr c44
           have c44b1 : ((rdOf ByteArray.empty y531 x13_2).toList != (rdOf ByteArray.empty y534 x13_2).toList) = true := bne_iff_ne.mpr c44
           by_cases c48 : ((rdOf ByteArray.empty y531 x13_2).size : Int) < ((rdOf ByteArray.empty y534 x13_2).size : Int)
           ·rw [if_pos c48] at H
            have c48b0 : decide (((rdOf ByteArray.empty y531 x13_2).size : Int) < ((rdOf ByteArray.empty y534 x13_2).size : Int)) = true := decide_eq_true c48
            have c48b1 : decide ((rdOf ByteArray.empty y531 x13_2).size < (rdOf ByteArray.empty y534 x13_2).size) = true := decide_eq_true (Int.ofNat_lt.mp c48)
            clear c48
            by_cases c49 : t529 = 0
            ·rw [if_pos c49] at H
             have c49b0 : (t529 == 0) = true := beq_iff_eq.mpr c49
             have c49b1 : (t529 != 0) = false := bne_eq_false_iff_eq.mpr c49
             clear c49
             by_cases c50 : ((decide (t528 < 0)) == true) = true
             ·rw [if_pos c50] at H
              have c50b0 : ((decide (t528 < 0)) == true) = true := c50
              (try (have c50b1 : decide ((decide (t528 < 0)) = true) = true := by simpa using c50))
              (try (have c50b2 : ((decide (t528 < 0)) == true) = true := by simpa using c50))
              clear c50
              by_cases c51 : t528 = 0
              ·rw [if_pos c51] at H
               have c51b0 : (t528 == 0) = true := beq_iff_eq.mpr c51
               have c51b1 : (t528 != 0) = false := bne_eq_false_iff_eq.mpr c51
               clear c51
               exact absurd ((Option.some.inj H).trans hR_) (by decide)
              ·rw [if_neg c51] at H
               have c51b0 : (t528 == 0) = false := beq_eq_false_iff_ne.mpr c51
               have c51b1 : (t528 != 0) = true := bne_iff_ne.mpr c51
               replace H := Option.bind_eq_some_iff.mp H
               obtain ⟨t541, A560, H⟩ := H
               replace H : (some t541) = some r := H
               have A56 := Aside0.mk A560
               clear A560
               obtain rfl := Option.some.inj H
               try go_wp2
               have n0_ := Aside0.mk (Kd.R_drew HO_11.out)
               have n1_ := Aside0.mk (Kd.R_drew HO_12.out)
               have n2_ := Aside0.mk (Kd.R_drew HO_511003.out)
               have n3_ := Aside0.mk (Kd.R_drew HO_512003.out)
               have n4_ := Aside0.mk (blk_drew BK510.out)
               have n5_ := Aside0.mk (blk_drew BK511.out)
               have n6_ := Aside0.mk (below_drew1 HB.out)
               clear HO_11
               clear HO_12
               clear HO_511003
               clear HO_512003
               clear BK510
               clear BK511
               clear HB
               have HO_11 := n0_
               have HO_12 := n1_
               have HO_511003 := n2_
               have HO_512003 := n3_
               have BK510 := n4_
               have BK511 := n5_
               have HB := n6_
               clear n0_ n1_ n2_ n3_ n4_ n5_ n6_
               obtain ⟨Ao58, co58, eo58⟩ := Kd.R_slice HO_11.out
               (first | subst eo58 | (injection eo58 with f1_ f2_ f3_; have f4_ := f1_.symm; have f5_ := f3_.symm; clear f1_ f2_ f3_; subst f4_; subst f5_))
               have p537 : 0 ≤ (x13_2 : Int) := of_decide_eq_true (by first | (with_reducible assumption) | assumption)
               have q537 : x13_2 < (y531.length : Int) := of_decide_eq_true (by first | (with_reducible assumption) | assumption)
               obtain ⟨ad537, e537, hx537_0⟩ := Kd.at_string (Kd.R_reads' HO_11.out).2.2 x13_2 p537 q537
               cases e537
               replace p537 := eq_true p537
               replace q537 := eq_true q537
               obtain ⟨Ao59, co59, eo59⟩ := Kd.R_slice HO_12.out
               (first | subst eo59 | (injection eo59 with f1_ f2_ f3_; have f4_ := f1_.symm; have f5_ := f3_.symm; clear f1_ f2_ f3_; subst f4_; subst f5_))
               have p538 : 0 ≤ (x13_2 : Int) := of_decide_eq_true (by first | (with_reducible assumption) | assumption)
               have q538 : x13_2 < (y534.length : Int) := of_decide_eq_true (by first | (with_reducible assumption) | assumption)
               obtain ⟨ad538, e538, hx538_0⟩ := Kd.at_string (Kd.R_reads' HO_12.out).2.2 x13_2 p538 q538
               cases e538
               replace p538 := eq_true p538
               replace q538 := eq_true q538
               refine start_ (n := 9) (S := fun w' => w'.cell? (ad537.add (x13_2).toNat) = some (.string (rdOf ByteArray.empty y531 x13_2)) ∧ w'.cell? (ad538.add (x13_2).toNat) = some (.string (rdOf ByteArray.empty y534 x13_2))) (ds := []) #[false, false, false, false, false, false, false, false, false] (by kernel_rfl) rfl rfl ⟨hx537_0, hx538_0⟩ (fun hHeld => ?_); refine with_tabW graftwoodlaw03_VersionCores.tab11 graftwoodlaw03_VersionCores.bits11 (fun HT_ HW_ => ?_)
               generalize wr.drew = w57 at HO_11 HO_12 HO_511003 HO_512003 BK510 BK511 HB hx537_0 hx538_0 hHeld ⊢
               refine pure_ (i := 0) (N := some 60) (v := ?_) (a' := ?_) #[true, false, false, false, false, false, false, false, false] rfl rfl (any_of HT_.out (by kernel_rfl)) (fun _ _ _ h => h) (Or.inl ⟨by rfl, ?_⟩) ?_ ?_
               rotate_left
               ·intro w'
                go_simp
                with_reducible rfl
               rotate_left
               ·simp only [Act.put, List.setIfInBounds_toArray, List.set_cons_zero, List.set_cons_succ, i64_w, i32_w]
                rfl
               refine pure_ (i := 1) (N := some 61) (v := ?_) (a' := ?_) #[true, true, false, false, false, false, false, false, false] rfl rfl (any_of HT_.out (by kernel_rfl)) (fun _ _ _ h => h) (Or.inl ⟨by rfl, ?_⟩) ?_ ?_
               rotate_left
               ·intro w'
                go_simp
                with_reducible rfl
               rotate_left
               ·simp only [Act.put, List.setIfInBounds_toArray, List.set_cons_zero, List.set_cons_succ, i64_w, i32_w]
                rfl
               refine pure_ (i := 2) (N := some 62) (v := ?_) (a' := ?_) #[true, true, true, false, false, false, false, false, false] rfl rfl (any_of HT_.out (by kernel_rfl)) (fun _ _ _ h => h) (Or.inl ⟨by rfl, ?_⟩) ?_ ?_
               rotate_left
               ·intro w'
                go_simp
                with_reducible rfl
               rotate_left
               ·simp only [Act.put, List.setIfInBounds_toArray, List.set_cons_zero, List.set_cons_succ, i64_w, i32_w]
                rfl
               refine pure_ (i := 4) (N := some 64) (v := ?_) (a' := ?_) #[true, true, true, false, true, false, false, false, false] rfl rfl (any_of HT_.out (by kernel_rfl)) (fun _ _ _ h => h) (Or.inl ⟨by rfl, ?_⟩) ?_ ?_
               rotate_left
               ·intro w'
                go_simp
                with_reducible rfl
               rotate_left
               ·simp only [Act.put, List.setIfInBounds_toArray, List.set_cons_zero, List.set_cons_succ, i64_w, i32_w]
                rfl
               refine pure_ (i := 5) (N := some 65) (v := ?_) (a' := ?_) #[true, true, true, false, true, true, false, false, false] rfl rfl (any_of HT_.out (by kernel_rfl)) (fun _ _ _ h => h) (Or.inl ⟨by rfl, ?_⟩) ?_ ?_
               rotate_left
               ·intro w'
                go_simp
                with_reducible rfl
               rotate_left
               ·simp only [Act.put, List.setIfInBounds_toArray, List.set_cons_zero, List.set_cons_succ, i64_w, i32_w]
                rfl
               refine pure_ (i := 6) (N := some 66) (v := ?_) (a' := ?_) #[true, true, true, false, true, true, true, false, false] rfl rfl (any_of HT_.out (by kernel_rfl)) (fun _ _ _ h => h) (Or.inl ⟨by rfl, ?_⟩) ?_ ?_
               rotate_left
               ·intro w'
                go_simp
                with_reducible rfl
               rotate_left
               ·simp only [Act.put, List.setIfInBounds_toArray, List.set_cons_zero, List.set_cons_succ, i64_w, i32_w]
                rfl
               refine take_ (i := 3) (N := some 63) (v := ?_) (a' := ?_) #[true, true, true, true, true, true, true, false, false] rfl rfl (take_ofW HT_.out HW_.out (by kernel_rfl)) (fun _ _ _ h => h) (Or.inl ⟨by rfl, ?_⟩) hHeld ?_ ?_
               rotate_left
               ·rintro w' ⟨s0, s1⟩
                go_simp
                with_reducible rfl
               rotate_left
               ·simp only [Act.put, List.setIfInBounds_toArray, List.set_cons_zero, List.set_cons_succ, i64_w, i32_w]
                rfl
               refine take_ (i := 7) (N := some 67) (v := ?_) (a' := ?_) #[true, true, true, true, true, true, true, true, false] rfl rfl (take_ofW HT_.out HW_.out (by kernel_rfl)) (fun _ _ _ h => h) (Or.inl ⟨by rfl, ?_⟩) hHeld ?_ ?_
               rotate_left
               ·rintro w' ⟨s0, s1⟩
                go_simp
                with_reducible rfl
               rotate_left
               ·simp only [Act.put, List.setIfInBounds_toArray, List.set_cons_zero, List.set_cons_succ, i64_w, i32_w]
                rfl
               refine pure_ (i := 8) (N := some 68) (v := ?_) (a' := ?_) #[true, true, true, true, true, true, true, true, true] rfl rfl (any_of HT_.out (by kernel_rfl)) (fun _ _ _ h => h) (Or.inl ⟨by rfl, ?_⟩) ?_ ?_
               rotate_left
               ·intro w'
                go_simp
                with_reducible rfl
               rotate_left
               ·simp only [Act.put, List.setIfInBounds_toArray, List.set_cons_zero, List.set_cons_succ, i64_w, i32_w]
                rfl
               refine done_ (done_of HT_.out (by kernel_rfl)) ?_
               try go_wp2
               have n0_ := Aside0.mk (Kd.R_drew HO_11.out)
               have n1_ := Aside0.mk (Kd.R_drew HO_12.out)
               have n2_ := Aside0.mk (Kd.R_drew HO_511003.out)
               have n3_ := Aside0.mk (Kd.R_drew HO_512003.out)
               have n4_ := Aside0.mk (blk_drew BK510.out)
               have n5_ := Aside0.mk (blk_drew BK511.out)
               have n6_ := Aside0.mk (below_drew1 HB.out)
               clear HO_11
               clear HO_12
               clear HO_511003
               clear HO_512003
               clear BK510
               clear BK511
               clear HB
               have HO_11 := n0_
               have HO_12 := n1_
               have HO_511003 := n2_
               have HO_512003 := n3_
               have BK510 := n4_
               have BK511 := n5_
               have HB := n6_
               clear n0_ n1_ n2_ n3_ n4_ n5_ n6_
               have p539 : 0 ≤ (x13_2 : Int) := of_decide_eq_true (by first | (with_reducible assumption) | assumption)
               have q539 : x13_2 < (y531.length : Int) := of_decide_eq_true (by first | (with_reducible assumption) | assumption)
               obtain ⟨ad539, e539, hx539_0⟩ := Kd.at_string (Kd.R_reads' HO_11.out).2.2 x13_2 p539 q539
               obtain rfl : ad537 = ad539 := (by injection e539)
               replace p539 := eq_true p539
               replace q539 := eq_true q539
               have p540 : 0 ≤ (x13_2 : Int) := of_decide_eq_true (by first | (with_reducible assumption) | assumption)
               have q540 : x13_2 < (y534.length : Int) := of_decide_eq_true (by first | (with_reducible assumption) | assumption)
               obtain ⟨ad540, e540, hx540_0⟩ := Kd.at_string (Kd.R_reads' HO_12.out).2.2 x13_2 p540 q540
               obtain rfl : ad538 = ad540 := (by injection e540)
               replace p540 := eq_true p540
               replace q540 := eq_true q540
               refine start_ (n := 36) (S := fun w' => w'.cell? (ad537.add (x13_2).toNat) = some (.string (rdOf ByteArray.empty y531 x13_2)) ∧ w'.cell? (ad538.add (x13_2).toNat) = some (.string (rdOf ByteArray.empty y534 x13_2))) (ds := []) #[false, false, false, false, false, false, false, false, false, false, false, false, false, false, false, false, false, false, false, false, false, false, false, false, false, false, false, false, false, false, false, false, false, false, false, false] (by kernel_rfl) rfl rfl ⟨hx539_0, hx540_0⟩ (fun hHeld => ?_); refine with_tabW graftwoodlaw03_VersionCores.tab12 graftwoodlaw03_VersionCores.bits12 (fun HT_ HW_ => ?_)
               generalize w57.drew = w60 at HO_11 HO_12 HO_511003 HO_512003 BK510 BK511 HB hx539_0 hx540_0 hHeld ⊢
               refine pure_ (i := 0) (N := some 69) (v := ?_) (a' := ?_) #[true, false, false, false, false, false, false, false, false, false, false, false, false, false, false, false, false, false, false, false, false, false, false, false, false, false, false, false, false, false, false, false, false, false, false, false] rfl rfl (any_of HT_.out (by kernel_rfl)) (fun _ _ _ h => h) (Or.inl ⟨by rfl, ?_⟩) ?_ ?_
               rotate_left
               ·intro w'
                go_simp
                with_reducible rfl
               rotate_left
               ·simp only [Act.put, List.setIfInBounds_toArray, List.set_cons_zero, List.set_cons_succ, i64_w, i32_w]
                rfl
               refine pure_ (i := 1) (N := some 70) (v := ?_) (a' := ?_) #[true, true, false, false, false, false, false, false, false, false, false, false, false, false, false, false, false, false, false, false, false, false, false, false, false, false, false, false, false, false, false, false, false, false, false, false] rfl rfl (any_of HT_.out (by kernel_rfl)) (fun _ _ _ h => h) (Or.inl ⟨by rfl, ?_⟩) ?_ ?_
               rotate_left
               ·intro w'
                go_simp
                with_reducible rfl
               rotate_left
               ·simp only [Act.put, List.setIfInBounds_toArray, List.set_cons_zero, List.set_cons_succ, i64_w, i32_w]
                rfl
               refine pure_ (i := 2) (N := some 71) (v := ?_) (a' := ?_) #[true, true, true, false, false, false, false, false, false, false, false, false, false, false, false, false, false, false, false, false, false, false, false, false, false, false, false, false, false, false, false, false, false, false, false, false] rfl rfl (any_of HT_.out (by kernel_rfl)) (fun _ _ _ h => h) (Or.inl ⟨by rfl, ?_⟩) ?_ ?_
               rotate_left
               ·intro w'
                go_simp
                with_reducible rfl
               rotate_left
               ·simp only [Act.put, List.setIfInBounds_toArray, List.set_cons_zero, List.set_cons_succ, i64_w, i32_w]
                rfl
               refine pure_ (i := 5) (N := some 74) (v := ?_) (a' := ?_) #[true, true, true, false, false, true, false, false, false, false, false, false, false, false, false, false, false, false, false, false, false, false, false, false, false, false, false, false, false, false, false, false, false, false, false, false] rfl rfl (any_of HT_.out (by kernel_rfl)) (fun _ _ _ h => h) (Or.inl ⟨by rfl, ?_⟩) ?_ ?_
               rotate_left
               ·intro w'
                go_simp
                with_reducible rfl
               rotate_left
               ·simp only [Act.put, List.setIfInBounds_toArray, List.set_cons_zero, List.set_cons_succ, i64_w, i32_w]
                rfl
               refine pure_ (i := 6) (N := some 75) (v := ?_) (a' := ?_) #[true, true, true, false, false, true, true, false, false, false, false, false, false, false, false, false, false, false, false, false, false, false, false, false, false, false, false, false, false, false, false, false, false, false, false, false] rfl rfl (any_of HT_.out (by kernel_rfl)) (fun _ _ _ h => h) (Or.inl ⟨by rfl, ?_⟩) ?_ ?_
               rotate_left
               ·intro w'
                go_simp
                with_reducible rfl
               rotate_left
               ·simp only [Act.put, List.setIfInBounds_toArray, List.set_cons_zero, List.set_cons_succ, i64_w, i32_w]
                rfl
               refine pure_ (i := 7) (N := some 76) (v := ?_) (a' := ?_) #[true, true, true, false, false, true, true, true, false, false, false, false, false, false, false, false, false, false, false, false, false, false, false, false, false, false, false, false, false, false, false, false, false, false, false, false] rfl rfl (any_of HT_.out (by kernel_rfl)) (fun _ _ _ h => h) (Or.inl ⟨by rfl, ?_⟩) ?_ ?_
               rotate_left
               ·intro w'
                go_simp
                with_reducible rfl
               rotate_left
               ·simp only [Act.put, List.setIfInBounds_toArray, List.set_cons_zero, List.set_cons_succ, i64_w, i32_w]
                rfl
               refine take_ (i := 3) (N := some 72) (v := ?_) (a' := ?_) #[true, true, true, true, false, true, true, true, false, false, false, false, false, false, false, false, false, false, false, false, false, false, false, false, false, false, false, false, false, false, false, false, false, false, false, false] rfl rfl (take_ofW HT_.out HW_.out (by kernel_rfl)) (fun _ _ _ h => h) (Or.inl ⟨by rfl, ?_⟩) hHeld ?_ ?_
               rotate_left
               ·rintro w' ⟨s0, s1⟩
                go_simp
                with_reducible rfl
               rotate_left
               ·simp only [Act.put, List.setIfInBounds_toArray, List.set_cons_zero, List.set_cons_succ, i64_w, i32_w]
                rfl
               refine pure_ (i := 4) (N := some 73) (v := ?_) (a' := ?_) #[true, true, true, true, true, true, true, true, false, false, false, false, false, false, false, false, false, false, false, false, false, false, false, false, false, false, false, false, false, false, false, false, false, false, false, false] rfl rfl (any_of HT_.out (by kernel_rfl)) (fun _ _ _ h => h) (Or.inl ⟨by rfl, ?_⟩) ?_ ?_
               rotate_left
               ·intro w'
                go_simp
                with_reducible rfl
               rotate_left
               ·simp only [Act.put, List.setIfInBounds_toArray, List.set_cons_zero, List.set_cons_succ, i64_w, i32_w]
                rfl
               refine take_ (i := 8) (N := some 77) (v := ?_) (a' := ?_) #[true, true, true, true, true, true, true, true, true, false, false, false, false, false, false, false, false, false, false, false, false, false, false, false, false, false, false, false, false, false, false, false, false, false, false, false] rfl rfl (take_ofW HT_.out HW_.out (by kernel_rfl)) (fun _ _ _ h => h) (Or.inl ⟨by rfl, ?_⟩) hHeld ?_ ?_
               rotate_left
               ·rintro w' ⟨s0, s1⟩
                go_simp
                with_reducible rfl
               rotate_left
               ·simp only [Act.put, List.setIfInBounds_toArray, List.set_cons_zero, List.set_cons_succ, i64_w, i32_w]
                rfl
               refine pure_ (i := 9) (N := some 78) (v := ?_) (a' := ?_) #[true, true, true, true, true, true, true, true, true, true, false, false, false, false, false, false, false, false, false, false, false, false, false, false, false, false, false, false, false, false, false, false, false, false, false, false] rfl rfl (any_of HT_.out (by kernel_rfl)) (fun _ _ _ h => h) (Or.inl ⟨by rfl, ?_⟩) ?_ ?_
               rotate_left
               ·intro w'
                go_simp
                with_reducible rfl
               rotate_left
               ·simp only [Act.put, List.setIfInBounds_toArray, List.set_cons_zero, List.set_cons_succ, i64_w, i32_w]
                rfl
               refine pure_ (i := 10) (N := some 79) (v := ?_) (a' := ?_) #[true, true, true, true, true, true, true, true, true, true, true, false, false, false, false, false, false, false, false, false, false, false, false, false, false, false, false, false, false, false, false, false, false, false, false, false] rfl rfl (any_of HT_.out (by kernel_rfl)) (fun _ _ _ h => h) (Or.inl ⟨by rfl, ?_⟩) ?_ ?_
               rotate_left
               ·intro w'
                go_simp
                with_reducible rfl
               rotate_left
               ·simp only [Act.put, List.setIfInBounds_toArray, List.set_cons_zero, List.set_cons_succ, i64_w, i32_w]
                rfl
               refine pure_ (i := 11) (N := some 80) (v := ?_) (a' := ?_) #[true, true, true, true, true, true, true, true, true, true, true, true, false, false, false, false, false, false, false, false, false, false, false, false, false, false, false, false, false, false, false, false, false, false, false, false] rfl rfl (any_of HT_.out (by kernel_rfl)) (fun _ _ _ h => h) (Or.inl ⟨by rfl, ?_⟩) ?_ ?_
               rotate_left
               ·intro w'
                go_simp
                with_reducible rfl
               rotate_left
               ·simp only [Act.put, List.setIfInBounds_toArray, List.set_cons_zero, List.set_cons_succ, i64_w, i32_w]
                rfl
               refine pure_ (i := 12) (N := some 81) (v := undef) (a' := ?_) #[true, true, true, true, true, true, true, true, true, true, true, true, true, false, false, false, false, false, false, false, false, false, false, false, false, false, false, false, false, false, false, false, false, false, false, false] rfl rfl (any_of HT_.out (by kernel_rfl)) (fun _ _ _ h => h) (Or.inr ⟨by rfl, rfl⟩) ?_ ?_
               rotate_left
               ·simp only [Act.put, List.setIfInBounds_toArray, List.set_cons_zero, List.set_cons_succ, i64_w, i32_w]
                rfl
               refine pure_ (i := 13) (N := some 82) (v := undef) (a' := ?_) #[true, true, true, true, true, true, true, true, true, true, true, true, true, true, false, false, false, false, false, false, false, false, false, false, false, false, false, false, false, false, false, false, false, false, false, false] rfl rfl (any_of HT_.out (by kernel_rfl)) (fun _ _ _ h => h) (Or.inr ⟨by rfl, rfl⟩) ?_ ?_
               rotate_left
               ·simp only [Act.put, List.setIfInBounds_toArray, List.set_cons_zero, List.set_cons_succ, i64_w, i32_w]
                rfl
               refine pure_ (i := 14) (N := some 83) (v := undef) (a' := ?_) #[true, true, true, true, true, true, true, true, true, true, true, true, true, true, true, false, false, false, false, false, false, false, false, false, false, false, false, false, false, false, false, false, false, false, false, false] rfl rfl (any_of HT_.out (by kernel_rfl)) (fun _ _ _ h => h) (Or.inr ⟨by rfl, rfl⟩) ?_ ?_
               rotate_left
               ·simp only [Act.put, List.setIfInBounds_toArray, List.set_cons_zero, List.set_cons_succ, i64_w, i32_w]
                rfl
               refine pure_ (i := 15) (N := some 84) (v := undef) (a' := ?_) #[true, true, true, true, true, true, true, true, true, true, true, true, true, true, true, true, false, false, false, false, false, false, false, false, false, false, false, false, false, false, false, false, false, false, false, false] rfl rfl (any_of HT_.out (by kernel_rfl)) (fun _ _ _ h => h) (Or.inr ⟨by rfl, rfl⟩) ?_ ?_
               rotate_left
               ·simp only [Act.put, List.setIfInBounds_toArray, List.set_cons_zero, List.set_cons_succ, i64_w, i32_w]
                rfl
               refine pure_ (i := 16) (N := some 85) (v := undef) (a' := ?_) #[true, true, true, true, true, true, true, true, true, true, true, true, true, true, true, true, true, false, false, false, false, false, false, false, false, false, false, false, false, false, false, false, false, false, false, false] rfl rfl (any_of HT_.out (by kernel_rfl)) (fun _ _ _ h => h) (Or.inr ⟨by rfl, rfl⟩) ?_ ?_
               rotate_left
               ·simp only [Act.put, List.setIfInBounds_toArray, List.set_cons_zero, List.set_cons_succ, i64_w, i32_w]
                rfl
               refine pure_ (i := 17) (N := some 86) (v := undef) (a' := ?_) #[true, true, true, true, true, true, true, true, true, true, true, true, true, true, true, true, true, true, false, false, false, false, false, false, false, false, false, false, false, false, false, false, false, false, false, false] rfl rfl (any_of HT_.out (by kernel_rfl)) (fun _ _ _ h => h) (Or.inr ⟨by rfl, rfl⟩) ?_ ?_
               rotate_left
               ·simp only [Act.put, List.setIfInBounds_toArray, List.set_cons_zero, List.set_cons_succ, i64_w, i32_w]
                rfl
               refine pure_ (i := 18) (N := some 87) (v := undef) (a' := ?_) #[true, true, true, true, true, true, true, true, true, true, true, true, true, true, true, true, true, true, true, false, false, false, false, false, false, false, false, false, false, false, false, false, false, false, false, false] rfl rfl (any_of HT_.out (by kernel_rfl)) (fun _ _ _ h => h) (Or.inr ⟨by rfl, rfl⟩) ?_ ?_
               rotate_left
               ·simp only [Act.put, List.setIfInBounds_toArray, List.set_cons_zero, List.set_cons_succ, i64_w, i32_w]
                rfl
               refine pure_ (i := 19) (N := some 88) (v := undef) (a' := ?_) #[true, true, true, true, true, true, true, true, true, true, true, true, true, true, true, true, true, true, true, true, false, false, false, false, false, false, false, false, false, false, false, false, false, false, false, false] rfl rfl (any_of HT_.out (by kernel_rfl)) (fun _ _ _ h => h) (Or.inr ⟨by rfl, rfl⟩) ?_ ?_
               rotate_left
               ·simp only [Act.put, List.setIfInBounds_toArray, List.set_cons_zero, List.set_cons_succ, i64_w, i32_w]
                rfl
               refine pure_ (i := 20) (N := some 89) (v := undef) (a' := ?_) #[true, true, true, true, true, true, true, true, true, true, true, true, true, true, true, true, true, true, true, true, true, false, false, false, false, false, false, false, false, false, false, false, false, false, false, false] rfl rfl (any_of HT_.out (by kernel_rfl)) (fun _ _ _ h => h) (Or.inr ⟨by rfl, rfl⟩) ?_ ?_
               rotate_left
               ·simp only [Act.put, List.setIfInBounds_toArray, List.set_cons_zero, List.set_cons_succ, i64_w, i32_w]
                rfl
               refine pure_ (i := 21) (N := some 90) (v := undef) (a' := ?_) #[true, true, true, true, true, true, true, true, true, true, true, true, true, true, true, true, true, true, true, true, true, true, false, false, false, false, false, false, false, false, false, false, false, false, false, false] rfl rfl (any_of HT_.out (by kernel_rfl)) (fun _ _ _ h => h) (Or.inr ⟨by rfl, rfl⟩) ?_ ?_
               rotate_left
               ·simp only [Act.put, List.setIfInBounds_toArray, List.set_cons_zero, List.set_cons_succ, i64_w, i32_w]
                rfl
               refine pure_ (i := 22) (N := some 91) (v := undef) (a' := ?_) #[true, true, true, true, true, true, true, true, true, true, true, true, true, true, true, true, true, true, true, true, true, true, true, false, false, false, false, false, false, false, false, false, false, false, false, false] rfl rfl (any_of HT_.out (by kernel_rfl)) (fun _ _ _ h => h) (Or.inr ⟨by rfl, rfl⟩) ?_ ?_
               rotate_left
               ·simp only [Act.put, List.setIfInBounds_toArray, List.set_cons_zero, List.set_cons_succ, i64_w, i32_w]
                rfl
               refine pure_ (i := 23) (N := some 92) (v := undef) (a' := ?_) #[true, true, true, true, true, true, true, true, true, true, true, true, true, true, true, true, true, true, true, true, true, true, true, true, false, false, false, false, false, false, false, false, false, false, false, false] rfl rfl (any_of HT_.out (by kernel_rfl)) (fun _ _ _ h => h) (Or.inr ⟨by rfl, rfl⟩) ?_ ?_
               rotate_left
               ·simp only [Act.put, List.setIfInBounds_toArray, List.set_cons_zero, List.set_cons_succ, i64_w, i32_w]
                rfl
               refine pure_ (i := 24) (N := some 93) (v := undef) (a' := ?_) #[true, true, true, true, true, true, true, true, true, true, true, true, true, true, true, true, true, true, true, true, true, true, true, true, true, false, false, false, false, false, false, false, false, false, false, false] rfl rfl (any_of HT_.out (by kernel_rfl)) (fun _ _ _ h => h) (Or.inr ⟨by rfl, rfl⟩) ?_ ?_
               rotate_left
               ·simp only [Act.put, List.setIfInBounds_toArray, List.set_cons_zero, List.set_cons_succ, i64_w, i32_w]
                rfl
               refine pure_ (i := 25) (N := some 94) (v := undef) (a' := ?_) #[true, true, true, true, true, true, true, true, true, true, true, true, true, true, true, true, true, true, true, true, true, true, true, true, true, true, false, false, false, false, false, false, false, false, false, false] rfl rfl (any_of HT_.out (by kernel_rfl)) (fun _ _ _ h => h) (Or.inr ⟨by rfl, rfl⟩) ?_ ?_
               rotate_left
               ·simp only [Act.put, List.setIfInBounds_toArray, List.set_cons_zero, List.set_cons_succ, i64_w, i32_w]
                rfl
               refine pure_ (i := 26) (N := some 95) (v := undef) (a' := ?_) #[true, true, true, true, true, true, true, true, true, true, true, true, true, true, true, true, true, true, true, true, true, true, true, true, true, true, true, false, false, false, false, false, false, false, false, false] rfl rfl (any_of HT_.out (by kernel_rfl)) (fun _ _ _ h => h) (Or.inr ⟨by rfl, rfl⟩) ?_ ?_
               rotate_left
               ·simp only [Act.put, List.setIfInBounds_toArray, List.set_cons_zero, List.set_cons_succ, i64_w, i32_w]
                rfl
               refine pure_ (i := 27) (N := some 96) (v := undef) (a' := ?_) #[true, true, true, true, true, true, true, true, true, true, true, true, true, true, true, true, true, true, true, true, true, true, true, true, true, true, true, true, false, false, false, false, false, false, false, false] rfl rfl (any_of HT_.out (by kernel_rfl)) (fun _ _ _ h => h) (Or.inr ⟨by rfl, rfl⟩) ?_ ?_
               rotate_left
               ·simp only [Act.put, List.setIfInBounds_toArray, List.set_cons_zero, List.set_cons_succ, i64_w, i32_w]
                rfl
               refine pure_ (i := 28) (N := some 97) (v := undef) (a' := ?_) #[true, true, true, true, true, true, true, true, true, true, true, true, true, true, true, true, true, true, true, true, true, true, true, true, true, true, true, true, true, false, false, false, false, false, false, false] rfl rfl (any_of HT_.out (by kernel_rfl)) (fun _ _ _ h => h) (Or.inr ⟨by rfl, rfl⟩) ?_ ?_
               rotate_left
               ·simp only [Act.put, List.setIfInBounds_toArray, List.set_cons_zero, List.set_cons_succ, i64_w, i32_w]
                rfl
               refine pure_ (i := 29) (N := some 98) (v := undef) (a' := ?_) #[true, true, true, true, true, true, true, true, true, true, true, true, true, true, true, true, true, true, true, true, true, true, true, true, true, true, true, true, true, true, false, false, false, false, false, false] rfl rfl (any_of HT_.out (by kernel_rfl)) (fun _ _ _ h => h) (Or.inr ⟨by rfl, rfl⟩) ?_ ?_
               rotate_left
               ·simp only [Act.put, List.setIfInBounds_toArray, List.set_cons_zero, List.set_cons_succ, i64_w, i32_w]
                rfl
               refine pure_ (i := 30) (N := some 99) (v := undef) (a' := ?_) #[true, true, true, true, true, true, true, true, true, true, true, true, true, true, true, true, true, true, true, true, true, true, true, true, true, true, true, true, true, true, true, false, false, false, false, false] rfl rfl (any_of HT_.out (by kernel_rfl)) (fun _ _ _ h => h) (Or.inr ⟨by rfl, rfl⟩) ?_ ?_
               rotate_left
               ·simp only [Act.put, List.setIfInBounds_toArray, List.set_cons_zero, List.set_cons_succ, i64_w, i32_w]
                rfl
               refine pure_ (i := 31) (N := some 100) (v := undef) (a' := ?_) #[true, true, true, true, true, true, true, true, true, true, true, true, true, true, true, true, true, true, true, true, true, true, true, true, true, true, true, true, true, true, true, true, false, false, false, false] rfl rfl (any_of HT_.out (by kernel_rfl)) (fun _ _ _ h => h) (Or.inr ⟨by rfl, rfl⟩) ?_ ?_
               rotate_left
               ·simp only [Act.put, List.setIfInBounds_toArray, List.set_cons_zero, List.set_cons_succ, i64_w, i32_w]
                rfl
               refine pure_ (i := 32) (N := some 101) (v := undef) (a' := ?_) #[true, true, true, true, true, true, true, true, true, true, true, true, true, true, true, true, true, true, true, true, true, true, true, true, true, true, true, true, true, true, true, true, true, false, false, false] rfl rfl (any_of HT_.out (by kernel_rfl)) (fun _ _ _ h => h) (Or.inr ⟨by rfl, rfl⟩) ?_ ?_
               rotate_left
               ·simp only [Act.put, List.setIfInBounds_toArray, List.set_cons_zero, List.set_cons_succ, i64_w, i32_w]
                rfl
               refine pure_ (i := 33) (N := some 102) (v := undef) (a' := ?_) #[true, true, true, true, true, true, true, true, true, true, true, true, true, true, true, true, true, true, true, true, true, true, true, true, true, true, true, true, true, true, true, true, true, true, false, false] rfl rfl (any_of HT_.out (by kernel_rfl)) (fun _ _ _ h => h) (Or.inr ⟨by rfl, rfl⟩) ?_ ?_
               rotate_left
               ·simp only [Act.put, List.setIfInBounds_toArray, List.set_cons_zero, List.set_cons_succ, i64_w, i32_w]
                rfl
               refine pure_ (i := 34) (N := some 103) (v := ?_) (a' := ?_) #[true, true, true, true, true, true, true, true, true, true, true, true, true, true, true, true, true, true, true, true, true, true, true, true, true, true, true, true, true, true, true, true, true, true, true, false] rfl rfl (any_of HT_.out (by kernel_rfl)) (fun _ _ _ h => h) (Or.inl ⟨by rfl, ?_⟩) ?_ ?_
               rotate_left
               ·intro w'
                go_simp
                with_reducible rfl
               rotate_left
               ·simp only [Act.put, List.setIfInBounds_toArray, List.set_cons_zero, List.set_cons_succ, i64_w, i32_w]
                rfl
               refine pure_ (i := 35) (N := some 14) (v := ?_) (a' := ?_) #[true, true, true, true, true, true, true, true, true, true, true, true, true, true, true, true, true, true, true, true, true, true, true, true, true, true, true, true, true, true, true, true, true, true, true, true] rfl rfl (any_of HT_.out (by kernel_rfl)) (fun _ _ _ h => h) (Or.inl ⟨by rfl, ?_⟩) ?_ ?_
               rotate_left
               ·intro w'
                go_simp
                with_reducible rfl
               rotate_left
               ·simp only [Act.put, List.setIfInBounds_toArray, List.set_cons_zero, List.set_cons_succ, i64_w, i32_w]
                rfl
               refine done_ (done_of HT_.out (by kernel_rfl)) ?_
               try go_wp2_with (first | (go_at_call 13; (with_reducible refine (graftwoodlaw03_awake.calls k2  t541 _ A56.out).mono ?_); rintro e w61 ⟨rfl, hb⟩; have n0_ := Aside0.mk (Kd.R_below (by (with_reducible repeat (first | apply Kd.R_alloc | apply Kd.R_drewN | apply Kd.R_drew)); exact HO_11.out) hb); have n1_ := Aside0.mk (Kd.R_below (by (with_reducible repeat (first | apply Kd.R_alloc | apply Kd.R_drewN | apply Kd.R_drew)); exact HO_12.out) hb); have n2_ := Aside0.mk (Kd.R_below (by (with_reducible repeat (first | apply Kd.R_alloc | apply Kd.R_drewN | apply Kd.R_drew)); exact HO_511003.out) hb); have n3_ := Aside0.mk (Kd.R_below (by (with_reducible repeat (first | apply Kd.R_alloc | apply Kd.R_drewN | apply Kd.R_drew)); exact HO_512003.out) hb); have n4_ := Aside0.mk (blk_below (g := gb510) (o := .cells #[.string t512, .string t513, .string t514, .slice Ao17 t515.length co17] 36 (0, 0)) (by (with_reducible repeat (first | refine blk_drewN ?_ _ | refine blk_drew ?_ | refine blk_alloc ?_ _)); exact BK510.out) hb); have n5_ := Aside0.mk (blk_below (g := gb511) (o := .cells #[.string t518, .string t519, .string t520, .slice Ao22 t521.length co22] 36 (0, 0)) (by (with_reducible repeat (first | refine blk_drewN ?_ _ | refine blk_drew ?_ | refine blk_alloc ?_ _)); exact BK511.out) hb); have n6_ := Aside0.mk (below_step (by repeat (first | (with_reducible first | exact HB.out | apply below_alloc | apply pw_below_drewN | apply below_drew1 | refine below_set ?_ GE510.out | refine below_set ?_ GE511.out) | exact HB.out)) hb); clear HO_11; clear HO_12; clear HO_511003; clear HO_512003; clear BK510; clear BK511; clear HB; have HO_11 := n0_; have HO_12 := n1_; have HO_511003 := n2_; have HO_512003 := n3_; have BK510 := n4_; have BK511 := n5_; have HB := n6_; clear n0_ n1_ n2_ n3_ n4_ n5_ n6_; (try clear hb); (try clear hb2); (try clear hk); (try clear hi)))
               go_ret
               exact ⟨by first | rfl | (simp [errW_none, errW_some] <;> rfl) | (simp [*, errW_none, errW_some] <;> rfl), by repeat (first | (with_reducible first | exact HB.out | apply below_alloc | apply pw_below_drewN | apply below_drew1 | refine below_set ?_ GE510.out | refine below_set ?_ GE511.out) | exact HB.out)⟩
             ·rw [if_neg c50] at H
              have c50b0 : ((decide (t528 < 0)) == true) = false := by simpa using c50
              (try (have c50b1 : decide ((decide (t528 < 0)) = true) = false := by simpa using c50))
              (try (have c50b2 : ((decide (t528 < 0)) == true) = false := by simpa using c50))
              (try (have c50b3 : ¬ ((decide (t528 < 0)) = true) := by simpa using c50))
              clear c50
              exact absurd ((Option.some.inj H).trans hR_) (by decide)
            ·rw [if_neg c49] at H
             have c49b0 : (t529 == 0) = false := beq_eq_false_iff_ne.mpr c49
             have c49b1 : (t529 != 0) = true := bne_iff_ne.mpr c49
             exact absurd ((Option.some.inj H).trans hR_) (by decide)
           ·rw [if_neg c48] at H
            have c48b0 : decide (((rdOf ByteArray.empty y531 x13_2).size : Int) < ((rdOf ByteArray.empty y534 x13_2).size : Int)) = false := decide_eq_false c48
            have c48b1 : decide ((rdOf ByteArray.empty y531 x13_2).size < (rdOf ByteArray.empty y534 x13_2).size) = false := decide_eq_false (fun h => c48 (Int.ofNat_lt.mpr h))
            clear c48
            by_cases c70 : ((rdOf ByteArray.empty y531 x13_2).size : Int) = ((rdOf ByteArray.empty y534 x13_2).size : Int)
            ·rw [if_pos c70] at H
             have c70b0 : (((rdOf ByteArray.empty y531 x13_2).size : Int) == ((rdOf ByteArray.empty y534 x13_2).size : Int)) = true := beq_iff_eq.mpr c70
             have c70b1 : (((rdOf ByteArray.empty y531 x13_2).size : Int) != ((rdOf ByteArray.empty y534 x13_2).size : Int)) = false := bne_eq_false_iff_eq.mpr c70
             have c70b2 : ((rdOf ByteArray.empty y531 x13_2).size == (rdOf ByteArray.empty y534 x13_2).size) = true := by first | simpa using c70 | (simp at c70 ⊢; omega)
             clear c70
             by_cases c71 : t529 = 0
             ·rw [if_pos c71] at H
              have c71b0 : (t529 == 0) = true := beq_iff_eq.mpr c71
              have c71b1 : (t529 != 0) = false := bne_eq_false_iff_eq.mpr c71
              clear c71
              by_cases c72 : ((decide (t528 < 0)) == (Op.bytesLess ((rdOf ByteArray.empty y531 x13_2).toList) ((rdOf ByteArray.empty y534 x13_2).toList))) = true
              ·rw [if_pos c72] at H
               have c72b0 : ((decide (t528 < 0)) == (Op.bytesLess ((rdOf ByteArray.empty y531 x13_2).toList) ((rdOf ByteArray.empty y534 x13_2).toList))) = true := c72
               (try (have c72b1 : decide ((decide (t528 < 0)) = (Op.bytesLess ((rdOf ByteArray.empty y531 x13_2).toList) ((rdOf ByteArray.empty y534 x13_2).toList))) = true := by simpa using c72))
               (try (have c72b2 : ((decide (t528 < 0)) == (Op.bytesLess ((rdOf ByteArray.empty y531 x13_2).toList) ((rdOf ByteArray.empty y534 x13_2).toList))) = true := by simpa using c72))
               clear c72
               by_cases c73 : t528 = 0
               ·rw [if_pos c73] at H
                have c73b0 : (t528 == 0) = true := beq_iff_eq.mpr c73
                have c73b1 : (t528 != 0) = false := bne_eq_false_iff_eq.mpr c73
                clear c73
                exact absurd ((Option.some.inj H).trans hR_) (by decide)
               ·rw [if_neg c73] at H
                have c73b0 : (t528 == 0) = false := beq_eq_false_iff_ne.mpr c73
                have c73b1 : (t528 != 0) = true := bne_iff_ne.mpr c73
                replace H := Option.bind_eq_some_iff.mp H
                obtain ⟨t546, A780, H⟩ := H
                replace H : (some t546) = some r := H
                have A78 := Aside0.mk A780
                clear A780
                obtain rfl := Option.some.inj H
                try go_wp2
                have n0_ := Aside0.mk (Kd.R_drew HO_11.out)
                have n1_ := Aside0.mk (Kd.R_drew HO_12.out)
                have n2_ := Aside0.mk (Kd.R_drew HO_511003.out)
                have n3_ := Aside0.mk (Kd.R_drew HO_512003.out)
                have n4_ := Aside0.mk (blk_drew BK510.out)
                have n5_ := Aside0.mk (blk_drew BK511.out)
                have n6_ := Aside0.mk (below_drew1 HB.out)
                clear HO_11
                clear HO_12
                clear HO_511003
                clear HO_512003
                clear BK510
                clear BK511
                clear HB
                have HO_11 := n0_
                have HO_12 := n1_
                have HO_511003 := n2_
                have HO_512003 := n3_
                have BK510 := n4_
                have BK511 := n5_
                have HB := n6_
                clear n0_ n1_ n2_ n3_ n4_ n5_ n6_
                obtain ⟨Ao80, co80, eo80⟩ := Kd.R_slice HO_11.out
                (first | subst eo80 | (injection eo80 with f1_ f2_ f3_; have f4_ := f1_.symm; have f5_ := f3_.symm; clear f1_ f2_ f3_; subst f4_; subst f5_))
                have p537 : 0 ≤ (x13_2 : Int) := of_decide_eq_true (by first | (with_reducible assumption) | assumption)
                have q537 : x13_2 < (y531.length : Int) := of_decide_eq_true (by first | (with_reducible assumption) | assumption)
                obtain ⟨ad537, e537, hx537_0⟩ := Kd.at_string (Kd.R_reads' HO_11.out).2.2 x13_2 p537 q537
                cases e537
                replace p537 := eq_true p537
                replace q537 := eq_true q537
                obtain ⟨Ao81, co81, eo81⟩ := Kd.R_slice HO_12.out
                (first | subst eo81 | (injection eo81 with f1_ f2_ f3_; have f4_ := f1_.symm; have f5_ := f3_.symm; clear f1_ f2_ f3_; subst f4_; subst f5_))
                have p538 : 0 ≤ (x13_2 : Int) := of_decide_eq_true (by first | (with_reducible assumption) | assumption)
                have q538 : x13_2 < (y534.length : Int) := of_decide_eq_true (by first | (with_reducible assumption) | assumption)
                obtain ⟨ad538, e538, hx538_0⟩ := Kd.at_string (Kd.R_reads' HO_12.out).2.2 x13_2 p538 q538
                cases e538
                replace p538 := eq_true p538
                replace q538 := eq_true q538
                refine start_ (n := 9) (S := fun w' => w'.cell? (ad537.add (x13_2).toNat) = some (.string (rdOf ByteArray.empty y531 x13_2)) ∧ w'.cell? (ad538.add (x13_2).toNat) = some (.string (rdOf ByteArray.empty y534 x13_2))) (ds := []) #[false, false, false, false, false, false, false, false, false] (by kernel_rfl) rfl rfl ⟨hx537_0, hx538_0⟩ (fun hHeld => ?_); refine with_tabW graftwoodlaw03_VersionCores.tab11 graftwoodlaw03_VersionCores.bits11 (fun HT_ HW_ => ?_)
                generalize wr.drew = w79 at HO_11 HO_12 HO_511003 HO_512003 BK510 BK511 HB hx537_0 hx538_0 hHeld ⊢
                refine pure_ (i := 0) (N := some 60) (v := ?_) (a' := ?_) #[true, false, false, false, false, false, false, false, false] rfl rfl (any_of HT_.out (by kernel_rfl)) (fun _ _ _ h => h) (Or.inl ⟨by rfl, ?_⟩) ?_ ?_
                rotate_left
                ·intro w'
                 go_simp
                 with_reducible rfl
                rotate_left
                ·simp only [Act.put, List.setIfInBounds_toArray, List.set_cons_zero, List.set_cons_succ, i64_w, i32_w]
                 rfl
                refine pure_ (i := 1) (N := some 61) (v := ?_) (a' := ?_) #[true, true, false, false, false, false, false, false, false] rfl rfl (any_of HT_.out (by kernel_rfl)) (fun _ _ _ h => h) (Or.inl ⟨by rfl, ?_⟩) ?_ ?_
                rotate_left
                ·intro w'
                 go_simp
                 with_reducible rfl
                rotate_left
                ·simp only [Act.put, List.setIfInBounds_toArray, List.set_cons_zero, List.set_cons_succ, i64_w, i32_w]
                 rfl
                refine pure_ (i := 2) (N := some 62) (v := ?_) (a' := ?_) #[true, true, true, false, false, false, false, false, false] rfl rfl (any_of HT_.out (by kernel_rfl)) (fun _ _ _ h => h) (Or.inl ⟨by rfl, ?_⟩) ?_ ?_
                rotate_left
                ·intro w'
                 go_simp
                 with_reducible rfl
                rotate_left
                ·simp only [Act.put, List.setIfInBounds_toArray, List.set_cons_zero, List.set_cons_succ, i64_w, i32_w]
                 rfl
                refine pure_ (i := 4) (N := some 64) (v := ?_) (a' := ?_) #[true, true, true, false, true, false, false, false, false] rfl rfl (any_of HT_.out (by kernel_rfl)) (fun _ _ _ h => h) (Or.inl ⟨by rfl, ?_⟩) ?_ ?_
                rotate_left
                ·intro w'
                 go_simp
                 with_reducible rfl
                rotate_left
                ·simp only [Act.put, List.setIfInBounds_toArray, List.set_cons_zero, List.set_cons_succ, i64_w, i32_w]
                 rfl
                refine pure_ (i := 5) (N := some 65) (v := ?_) (a' := ?_) #[true, true, true, false, true, true, false, false, false] rfl rfl (any_of HT_.out (by kernel_rfl)) (fun _ _ _ h => h) (Or.inl ⟨by rfl, ?_⟩) ?_ ?_
                rotate_left
                ·intro w'
                 go_simp
                 with_reducible rfl
                rotate_left
                ·simp only [Act.put, List.setIfInBounds_toArray, List.set_cons_zero, List.set_cons_succ, i64_w, i32_w]
                 rfl
                refine pure_ (i := 6) (N := some 66) (v := ?_) (a' := ?_) #[true, true, true, false, true, true, true, false, false] rfl rfl (any_of HT_.out (by kernel_rfl)) (fun _ _ _ h => h) (Or.inl ⟨by rfl, ?_⟩) ?_ ?_
                rotate_left
                ·intro w'
                 go_simp
                 with_reducible rfl
                rotate_left
                ·simp only [Act.put, List.setIfInBounds_toArray, List.set_cons_zero, List.set_cons_succ, i64_w, i32_w]
                 rfl
                refine take_ (i := 3) (N := some 63) (v := ?_) (a' := ?_) #[true, true, true, true, true, true, true, false, false] rfl rfl (take_ofW HT_.out HW_.out (by kernel_rfl)) (fun _ _ _ h => h) (Or.inl ⟨by rfl, ?_⟩) hHeld ?_ ?_
                rotate_left
                ·rintro w' ⟨s0, s1⟩
                 go_simp
                 with_reducible rfl
                rotate_left
                ·simp only [Act.put, List.setIfInBounds_toArray, List.set_cons_zero, List.set_cons_succ, i64_w, i32_w]
                 rfl
                refine take_ (i := 7) (N := some 67) (v := ?_) (a' := ?_) #[true, true, true, true, true, true, true, true, false] rfl rfl (take_ofW HT_.out HW_.out (by kernel_rfl)) (fun _ _ _ h => h) (Or.inl ⟨by rfl, ?_⟩) hHeld ?_ ?_
                rotate_left
                ·rintro w' ⟨s0, s1⟩
                 go_simp
                 with_reducible rfl
                rotate_left
                ·simp only [Act.put, List.setIfInBounds_toArray, List.set_cons_zero, List.set_cons_succ, i64_w, i32_w]
                 rfl
                refine pure_ (i := 8) (N := some 68) (v := ?_) (a' := ?_) #[true, true, true, true, true, true, true, true, true] rfl rfl (any_of HT_.out (by kernel_rfl)) (fun _ _ _ h => h) (Or.inl ⟨by rfl, ?_⟩) ?_ ?_
                rotate_left
                ·intro w'
                 go_simp
                 with_reducible rfl
                rotate_left
                ·simp only [Act.put, List.setIfInBounds_toArray, List.set_cons_zero, List.set_cons_succ, i64_w, i32_w]
                 rfl
                refine done_ (done_of HT_.out (by kernel_rfl)) ?_
                try go_wp2
                have n0_ := Aside0.mk (Kd.R_drew HO_11.out)
                have n1_ := Aside0.mk (Kd.R_drew HO_12.out)
                have n2_ := Aside0.mk (Kd.R_drew HO_511003.out)
                have n3_ := Aside0.mk (Kd.R_drew HO_512003.out)
                have n4_ := Aside0.mk (blk_drew BK510.out)
                have n5_ := Aside0.mk (blk_drew BK511.out)
                have n6_ := Aside0.mk (below_drew1 HB.out)
                clear HO_11
                clear HO_12
                clear HO_511003
                clear HO_512003
                clear BK510
                clear BK511
                clear HB
                have HO_11 := n0_
                have HO_12 := n1_
                have HO_511003 := n2_
                have HO_512003 := n3_
                have BK510 := n4_
                have BK511 := n5_
                have HB := n6_
                clear n0_ n1_ n2_ n3_ n4_ n5_ n6_
                have p539 : 0 ≤ (x13_2 : Int) := of_decide_eq_true (by first | (with_reducible assumption) | assumption)
                have q539 : x13_2 < (y531.length : Int) := of_decide_eq_true (by first | (with_reducible assumption) | assumption)
                obtain ⟨ad539, e539, hx539_0⟩ := Kd.at_string (Kd.R_reads' HO_11.out).2.2 x13_2 p539 q539
                obtain rfl : ad537 = ad539 := (by injection e539)
                replace p539 := eq_true p539
                replace q539 := eq_true q539
                have p540 : 0 ≤ (x13_2 : Int) := of_decide_eq_true (by first | (with_reducible assumption) | assumption)
                have q540 : x13_2 < (y534.length : Int) := of_decide_eq_true (by first | (with_reducible assumption) | assumption)
                obtain ⟨ad540, e540, hx540_0⟩ := Kd.at_string (Kd.R_reads' HO_12.out).2.2 x13_2 p540 q540
                obtain rfl : ad538 = ad540 := (by injection e540)
                replace p540 := eq_true p540
                replace q540 := eq_true q540
                have p542 : 0 ≤ (x13_2 : Int) := of_decide_eq_true (by first | (with_reducible assumption) | assumption)
                have q542 : x13_2 < (y531.length : Int) := of_decide_eq_true (by first | (with_reducible assumption) | assumption)
                obtain ⟨ad542, e542, hx542_0⟩ := Kd.at_string (Kd.R_reads' HO_11.out).2.2 x13_2 p542 q542
                obtain rfl : ad537 = ad542 := (by injection e542)
                replace p542 := eq_true p542
                replace q542 := eq_true q542
                have p543 : 0 ≤ (x13_2 : Int) := of_decide_eq_true (by first | (with_reducible assumption) | assumption)
                have q543 : x13_2 < (y534.length : Int) := of_decide_eq_true (by first | (with_reducible assumption) | assumption)
                obtain ⟨ad543, e543, hx543_0⟩ := Kd.at_string (Kd.R_reads' HO_12.out).2.2 x13_2 p543 q543
                obtain rfl : ad538 = ad543 := (by injection e543)
                replace p543 := eq_true p543
                replace q543 := eq_true q543
                have p544 : 0 ≤ (x13_2 : Int) := of_decide_eq_true (by first | (with_reducible assumption) | assumption)
                have q544 : x13_2 < (y531.length : Int) := of_decide_eq_true (by first | (with_reducible assumption) | assumption)
                obtain ⟨ad544, e544, hx544_0⟩ := Kd.at_string (Kd.R_reads' HO_11.out).2.2 x13_2 p544 q544
                obtain rfl : ad537 = ad544 := (by injection e544)
                replace p544 := eq_true p544
                replace q544 := eq_true q544
                have p545 : 0 ≤ (x13_2 : Int) := of_decide_eq_true (by first | (with_reducible assumption) | assumption)
                have q545 : x13_2 < (y534.length : Int) := of_decide_eq_true (by first | (with_reducible assumption) | assumption)
                obtain ⟨ad545, e545, hx545_0⟩ := Kd.at_string (Kd.R_reads' HO_12.out).2.2 x13_2 p545 q545
                obtain rfl : ad538 = ad545 := (by injection e545)
                replace p545 := eq_true p545
                replace q545 := eq_true q545
                refine start_ (n := 36) (S := fun w' => w'.cell? (ad537.add (x13_2).toNat) = some (.string (rdOf ByteArray.empty y531 x13_2)) ∧ w'.cell? (ad538.add (x13_2).toNat) = some (.string (rdOf ByteArray.empty y534 x13_2)) ∧ w'.cell? (ad537.add (x13_2).toNat) = some (.string (rdOf ByteArray.empty y531 x13_2)) ∧ w'.cell? (ad538.add (x13_2).toNat) = some (.string (rdOf ByteArray.empty y534 x13_2)) ∧ w'.cell? (ad537.add (x13_2).toNat) = some (.string (rdOf ByteArray.empty y531 x13_2)) ∧ w'.cell? (ad538.add (x13_2).toNat) = some (.string (rdOf ByteArray.empty y534 x13_2))) (ds := []) #[false, false, false, false, false, false, false, false, false, false, false, false, false, false, false, false, false, false, false, false, false, false, false, false, false, false, false, false, false, false, false, false, false, false, false, false] (by kernel_rfl) rfl rfl ⟨hx539_0, hx540_0, hx542_0, hx543_0, hx544_0, hx545_0⟩ (fun hHeld => ?_); refine with_tabW graftwoodlaw03_VersionCores.tab12 graftwoodlaw03_VersionCores.bits12 (fun HT_ HW_ => ?_)
                generalize w79.drew = w82 at HO_11 HO_12 HO_511003 HO_512003 BK510 BK511 HB hx539_0 hx540_0 hx542_0 hx543_0 hx544_0 hx545_0 hHeld ⊢
                refine pure_ (i := 0) (N := some 69) (v := ?_) (a' := ?_) #[true, false, false, false, false, false, false, false, false, false, false, false, false, false, false, false, false, false, false, false, false, false, false, false, false, false, false, false, false, false, false, false, false, false, false, false] rfl rfl (any_of HT_.out (by kernel_rfl)) (fun _ _ _ h => h) (Or.inl ⟨by rfl, ?_⟩) ?_ ?_
                rotate_left
                ·intro w'
                 go_simp
                 with_reducible rfl
                rotate_left
                ·simp only [Act.put, List.setIfInBounds_toArray, List.set_cons_zero, List.set_cons_succ, i64_w, i32_w]
                 rfl
                refine pure_ (i := 1) (N := some 70) (v := ?_) (a' := ?_) #[true, true, false, false, false, false, false, false, false, false, false, false, false, false, false, false, false, false, false, false, false, false, false, false, false, false, false, false, false, false, false, false, false, false, false, false] rfl rfl (any_of HT_.out (by kernel_rfl)) (fun _ _ _ h => h) (Or.inl ⟨by rfl, ?_⟩) ?_ ?_
                rotate_left
                ·intro w'
                 go_simp
                 with_reducible rfl
                rotate_left
                ·simp only [Act.put, List.setIfInBounds_toArray, List.set_cons_zero, List.set_cons_succ, i64_w, i32_w]
                 rfl
                refine pure_ (i := 2) (N := some 71) (v := ?_) (a' := ?_) #[true, true, true, false, false, false, false, false, false, false, false, false, false, false, false, false, false, false, false, false, false, false, false, false, false, false, false, false, false, false, false, false, false, false, false, false] rfl rfl (any_of HT_.out (by kernel_rfl)) (fun _ _ _ h => h) (Or.inl ⟨by rfl, ?_⟩) ?_ ?_
                rotate_left
                ·intro w'
                 go_simp
                 with_reducible rfl
                rotate_left
                ·simp only [Act.put, List.setIfInBounds_toArray, List.set_cons_zero, List.set_cons_succ, i64_w, i32_w]
                 rfl
                refine pure_ (i := 5) (N := some 74) (v := ?_) (a' := ?_) #[true, true, true, false, false, true, false, false, false, false, false, false, false, false, false, false, false, false, false, false, false, false, false, false, false, false, false, false, false, false, false, false, false, false, false, false] rfl rfl (any_of HT_.out (by kernel_rfl)) (fun _ _ _ h => h) (Or.inl ⟨by rfl, ?_⟩) ?_ ?_
                rotate_left
                ·intro w'
                 go_simp
                 with_reducible rfl
                rotate_left
                ·simp only [Act.put, List.setIfInBounds_toArray, List.set_cons_zero, List.set_cons_succ, i64_w, i32_w]
                 rfl
                refine pure_ (i := 6) (N := some 75) (v := ?_) (a' := ?_) #[true, true, true, false, false, true, true, false, false, false, false, false, false, false, false, false, false, false, false, false, false, false, false, false, false, false, false, false, false, false, false, false, false, false, false, false] rfl rfl (any_of HT_.out (by kernel_rfl)) (fun _ _ _ h => h) (Or.inl ⟨by rfl, ?_⟩) ?_ ?_
                rotate_left
                ·intro w'
                 go_simp
                 with_reducible rfl
                rotate_left
                ·simp only [Act.put, List.setIfInBounds_toArray, List.set_cons_zero, List.set_cons_succ, i64_w, i32_w]
                 rfl
                refine pure_ (i := 7) (N := some 76) (v := ?_) (a' := ?_) #[true, true, true, false, false, true, true, true, false, false, false, false, false, false, false, false, false, false, false, false, false, false, false, false, false, false, false, false, false, false, false, false, false, false, false, false] rfl rfl (any_of HT_.out (by kernel_rfl)) (fun _ _ _ h => h) (Or.inl ⟨by rfl, ?_⟩) ?_ ?_
                rotate_left
                ·intro w'
                 go_simp
                 with_reducible rfl
                rotate_left
                ·simp only [Act.put, List.setIfInBounds_toArray, List.set_cons_zero, List.set_cons_succ, i64_w, i32_w]
                 rfl
                refine take_ (i := 3) (N := some 72) (v := ?_) (a' := ?_) #[true, true, true, true, false, true, true, true, false, false, false, false, false, false, false, false, false, false, false, false, false, false, false, false, false, false, false, false, false, false, false, false, false, false, false, false] rfl rfl (take_ofW HT_.out HW_.out (by kernel_rfl)) (fun _ _ _ h => h) (Or.inl ⟨by rfl, ?_⟩) hHeld ?_ ?_
                rotate_left
                ·rintro w' ⟨s0, s1, s2, s3, s4, s5⟩
                 go_simp
                 with_reducible rfl
                rotate_left
                ·simp only [Act.put, List.setIfInBounds_toArray, List.set_cons_zero, List.set_cons_succ, i64_w, i32_w]
                 rfl
                refine pure_ (i := 4) (N := some 73) (v := ?_) (a' := ?_) #[true, true, true, true, true, true, true, true, false, false, false, false, false, false, false, false, false, false, false, false, false, false, false, false, false, false, false, false, false, false, false, false, false, false, false, false] rfl rfl (any_of HT_.out (by kernel_rfl)) (fun _ _ _ h => h) (Or.inl ⟨by rfl, ?_⟩) ?_ ?_
                rotate_left
                ·intro w'
                 go_simp
                 with_reducible rfl
                rotate_left
                ·simp only [Act.put, List.setIfInBounds_toArray, List.set_cons_zero, List.set_cons_succ, i64_w, i32_w]
                 rfl
                refine take_ (i := 8) (N := some 77) (v := ?_) (a' := ?_) #[true, true, true, true, true, true, true, true, true, false, false, false, false, false, false, false, false, false, false, false, false, false, false, false, false, false, false, false, false, false, false, false, false, false, false, false] rfl rfl (take_ofW HT_.out HW_.out (by kernel_rfl)) (fun _ _ _ h => h) (Or.inl ⟨by rfl, ?_⟩) hHeld ?_ ?_
                rotate_left
                ·rintro w' ⟨s0, s1, s2, s3, s4, s5⟩
                 go_simp
                 with_reducible rfl
                rotate_left
                ·simp only [Act.put, List.setIfInBounds_toArray, List.set_cons_zero, List.set_cons_succ, i64_w, i32_w]
                 rfl
                refine pure_ (i := 9) (N := some 78) (v := ?_) (a' := ?_) #[true, true, true, true, true, true, true, true, true, true, false, false, false, false, false, false, false, false, false, false, false, false, false, false, false, false, false, false, false, false, false, false, false, false, false, false] rfl rfl (any_of HT_.out (by kernel_rfl)) (fun _ _ _ h => h) (Or.inl ⟨by rfl, ?_⟩) ?_ ?_
                rotate_left
                ·intro w'
                 go_simp
                 with_reducible rfl
                rotate_left
                ·simp only [Act.put, List.setIfInBounds_toArray, List.set_cons_zero, List.set_cons_succ, i64_w, i32_w]
                 rfl
                refine pure_ (i := 10) (N := some 79) (v := ?_) (a' := ?_) #[true, true, true, true, true, true, true, true, true, true, true, false, false, false, false, false, false, false, false, false, false, false, false, false, false, false, false, false, false, false, false, false, false, false, false, false] rfl rfl (any_of HT_.out (by kernel_rfl)) (fun _ _ _ h => h) (Or.inl ⟨by rfl, ?_⟩) ?_ ?_
                rotate_left
                ·intro w'
                 go_simp
                 with_reducible rfl
                rotate_left
                ·simp only [Act.put, List.setIfInBounds_toArray, List.set_cons_zero, List.set_cons_succ, i64_w, i32_w]
                 rfl
                refine pure_ (i := 11) (N := some 80) (v := ?_) (a' := ?_) #[true, true, true, true, true, true, true, true, true, true, true, true, false, false, false, false, false, false, false, false, false, false, false, false, false, false, false, false, false, false, false, false, false, false, false, false] rfl rfl (any_of HT_.out (by kernel_rfl)) (fun _ _ _ h => h) (Or.inl ⟨by rfl, ?_⟩) ?_ ?_
                rotate_left
                ·intro w'
                 go_simp
                 with_reducible rfl
                rotate_left
                ·simp only [Act.put, List.setIfInBounds_toArray, List.set_cons_zero, List.set_cons_succ, i64_w, i32_w]
                 rfl
                refine pure_ (i := 12) (N := some 81) (v := ?_) (a' := ?_) #[true, true, true, true, true, true, true, true, true, true, true, true, true, false, false, false, false, false, false, false, false, false, false, false, false, false, false, false, false, false, false, false, false, false, false, false] rfl rfl (any_of HT_.out (by kernel_rfl)) (fun _ _ _ h => h) (Or.inl ⟨by rfl, ?_⟩) ?_ ?_
                rotate_left
                ·intro w'
                 go_simp
                 with_reducible rfl
                rotate_left
                ·simp only [Act.put, List.setIfInBounds_toArray, List.set_cons_zero, List.set_cons_succ, i64_w, i32_w]
                 rfl
                refine pure_ (i := 13) (N := some 82) (v := ?_) (a' := ?_) #[true, true, true, true, true, true, true, true, true, true, true, true, true, true, false, false, false, false, false, false, false, false, false, false, false, false, false, false, false, false, false, false, false, false, false, false] rfl rfl (any_of HT_.out (by kernel_rfl)) (fun _ _ _ h => h) (Or.inl ⟨by rfl, ?_⟩) ?_ ?_
                rotate_left
                ·intro w'
                 go_simp
                 with_reducible rfl
                rotate_left
                ·simp only [Act.put, List.setIfInBounds_toArray, List.set_cons_zero, List.set_cons_succ, i64_w, i32_w]
                 rfl
                refine pure_ (i := 14) (N := some 83) (v := ?_) (a' := ?_) #[true, true, true, true, true, true, true, true, true, true, true, true, true, true, true, false, false, false, false, false, false, false, false, false, false, false, false, false, false, false, false, false, false, false, false, false] rfl rfl (any_of HT_.out (by kernel_rfl)) (fun _ _ _ h => h) (Or.inl ⟨by rfl, ?_⟩) ?_ ?_
                rotate_left
                ·intro w'
                 go_simp
                 with_reducible rfl
                rotate_left
                ·simp only [Act.put, List.setIfInBounds_toArray, List.set_cons_zero, List.set_cons_succ, i64_w, i32_w]
                 rfl
                refine pure_ (i := 17) (N := some 86) (v := ?_) (a' := ?_) #[true, true, true, true, true, true, true, true, true, true, true, true, true, true, true, false, false, true, false, false, false, false, false, false, false, false, false, false, false, false, false, false, false, false, false, false] rfl rfl (any_of HT_.out (by kernel_rfl)) (fun _ _ _ h => h) (Or.inl ⟨by rfl, ?_⟩) ?_ ?_
                rotate_left
                ·intro w'
                 go_simp
                 with_reducible rfl
                rotate_left
                ·simp only [Act.put, List.setIfInBounds_toArray, List.set_cons_zero, List.set_cons_succ, i64_w, i32_w]
                 rfl
                refine pure_ (i := 18) (N := some 87) (v := ?_) (a' := ?_) #[true, true, true, true, true, true, true, true, true, true, true, true, true, true, true, false, false, true, true, false, false, false, false, false, false, false, false, false, false, false, false, false, false, false, false, false] rfl rfl (any_of HT_.out (by kernel_rfl)) (fun _ _ _ h => h) (Or.inl ⟨by rfl, ?_⟩) ?_ ?_
                rotate_left
                ·intro w'
                 go_simp
                 with_reducible rfl
                rotate_left
                ·simp only [Act.put, List.setIfInBounds_toArray, List.set_cons_zero, List.set_cons_succ, i64_w, i32_w]
                 rfl
                refine pure_ (i := 19) (N := some 88) (v := ?_) (a' := ?_) #[true, true, true, true, true, true, true, true, true, true, true, true, true, true, true, false, false, true, true, true, false, false, false, false, false, false, false, false, false, false, false, false, false, false, false, false] rfl rfl (any_of HT_.out (by kernel_rfl)) (fun _ _ _ h => h) (Or.inl ⟨by rfl, ?_⟩) ?_ ?_
                rotate_left
                ·intro w'
                 go_simp
                 with_reducible rfl
                rotate_left
                ·simp only [Act.put, List.setIfInBounds_toArray, List.set_cons_zero, List.set_cons_succ, i64_w, i32_w]
                 rfl
                refine take_ (i := 15) (N := some 84) (v := ?_) (a' := ?_) #[true, true, true, true, true, true, true, true, true, true, true, true, true, true, true, true, false, true, true, true, false, false, false, false, false, false, false, false, false, false, false, false, false, false, false, false] rfl rfl (take_ofW HT_.out HW_.out (by kernel_rfl)) (fun _ _ _ h => h) (Or.inl ⟨by rfl, ?_⟩) hHeld ?_ ?_
                rotate_left
                ·rintro w' ⟨s0, s1, s2, s3, s4, s5⟩
                 go_simp
                 with_reducible rfl
                rotate_left
                ·simp only [Act.put, List.setIfInBounds_toArray, List.set_cons_zero, List.set_cons_succ, i64_w, i32_w]
                 rfl
                refine pure_ (i := 16) (N := some 85) (v := ?_) (a' := ?_) #[true, true, true, true, true, true, true, true, true, true, true, true, true, true, true, true, true, true, true, true, false, false, false, false, false, false, false, false, false, false, false, false, false, false, false, false] rfl rfl (any_of HT_.out (by kernel_rfl)) (fun _ _ _ h => h) (Or.inl ⟨by rfl, ?_⟩) ?_ ?_
                rotate_left
                ·intro w'
                 go_simp
                 with_reducible rfl
                rotate_left
                ·simp only [Act.put, List.setIfInBounds_toArray, List.set_cons_zero, List.set_cons_succ, i64_w, i32_w]
                 rfl
                refine take_ (i := 20) (N := some 89) (v := ?_) (a' := ?_) #[true, true, true, true, true, true, true, true, true, true, true, true, true, true, true, true, true, true, true, true, true, false, false, false, false, false, false, false, false, false, false, false, false, false, false, false] rfl rfl (take_ofW HT_.out HW_.out (by kernel_rfl)) (fun _ _ _ h => h) (Or.inl ⟨by rfl, ?_⟩) hHeld ?_ ?_
                rotate_left
                ·rintro w' ⟨s0, s1, s2, s3, s4, s5⟩
                 go_simp
                 with_reducible rfl
                rotate_left
                ·simp only [Act.put, List.setIfInBounds_toArray, List.set_cons_zero, List.set_cons_succ, i64_w, i32_w]
                 rfl
                refine pure_ (i := 21) (N := some 90) (v := ?_) (a' := ?_) #[true, true, true, true, true, true, true, true, true, true, true, true, true, true, true, true, true, true, true, true, true, true, false, false, false, false, false, false, false, false, false, false, false, false, false, false] rfl rfl (any_of HT_.out (by kernel_rfl)) (fun _ _ _ h => h) (Or.inl ⟨by rfl, ?_⟩) ?_ ?_
                rotate_left
                ·intro w'
                 go_simp
                 with_reducible rfl
                rotate_left
                ·simp only [Act.put, List.setIfInBounds_toArray, List.set_cons_zero, List.set_cons_succ, i64_w, i32_w]
                 rfl
                refine pure_ (i := 22) (N := some 91) (v := ?_) (a' := ?_) #[true, true, true, true, true, true, true, true, true, true, true, true, true, true, true, true, true, true, true, true, true, true, true, false, false, false, false, false, false, false, false, false, false, false, false, false] rfl rfl (any_of HT_.out (by kernel_rfl)) (fun _ _ _ h => h) (Or.inl ⟨by rfl, ?_⟩) ?_ ?_
                rotate_left
                ·intro w'
                 go_simp
                 with_reducible rfl
                rotate_left
                ·simp only [Act.put, List.setIfInBounds_toArray, List.set_cons_zero, List.set_cons_succ, i64_w, i32_w]
                 rfl
                refine pure_ (i := 23) (N := some 92) (v := ?_) (a' := ?_) #[true, true, true, true, true, true, true, true, true, true, true, true, true, true, true, true, true, true, true, true, true, true, true, true, false, false, false, false, false, false, false, false, false, false, false, false] rfl rfl (any_of HT_.out (by kernel_rfl)) (fun _ _ _ h => h) (Or.inl ⟨by rfl, ?_⟩) ?_ ?_
                rotate_left
                ·intro w'
                 go_simp
                 with_reducible rfl
                rotate_left
                ·simp only [Act.put, List.setIfInBounds_toArray, List.set_cons_zero, List.set_cons_succ, i64_w, i32_w]
                 rfl
                refine pure_ (i := 24) (N := some 93) (v := ?_) (a' := ?_) #[true, true, true, true, true, true, true, true, true, true, true, true, true, true, true, true, true, true, true, true, true, true, true, true, true, false, false, false, false, false, false, false, false, false, false, false] rfl rfl (any_of HT_.out (by kernel_rfl)) (fun _ _ _ h => h) (Or.inl ⟨by rfl, ?_⟩) ?_ ?_
                rotate_left
                ·intro w'
                 go_simp
                 with_reducible rfl
                rotate_left
                ·simp only [Act.put, List.setIfInBounds_toArray, List.set_cons_zero, List.set_cons_succ, i64_w, i32_w]
                 rfl
                refine pure_ (i := 25) (N := some 94) (v := ?_) (a' := ?_) #[true, true, true, true, true, true, true, true, true, true, true, true, true, true, true, true, true, true, true, true, true, true, true, true, true, true, false, false, false, false, false, false, false, false, false, false] rfl rfl (any_of HT_.out (by kernel_rfl)) (fun _ _ _ h => h) (Or.inl ⟨by rfl, ?_⟩) ?_ ?_
                rotate_left
                ·intro w'
                 go_simp
                 with_reducible rfl
                rotate_left
                ·simp only [Act.put, List.setIfInBounds_toArray, List.set_cons_zero, List.set_cons_succ, i64_w, i32_w]
                 rfl
                refine pure_ (i := 26) (N := some 95) (v := ?_) (a' := ?_) #[true, true, true, true, true, true, true, true, true, true, true, true, true, true, true, true, true, true, true, true, true, true, true, true, true, true, true, false, false, false, false, false, false, false, false, false] rfl rfl (any_of HT_.out (by kernel_rfl)) (fun _ _ _ h => h) (Or.inl ⟨by rfl, ?_⟩) ?_ ?_
                rotate_left
                ·intro w'
                 go_simp
                 with_reducible rfl
                rotate_left
                ·simp only [Act.put, List.setIfInBounds_toArray, List.set_cons_zero, List.set_cons_succ, i64_w, i32_w]
                 rfl
                refine pure_ (i := 28) (N := some 97) (v := ?_) (a' := ?_) #[true, true, true, true, true, true, true, true, true, true, true, true, true, true, true, true, true, true, true, true, true, true, true, true, true, true, true, false, true, false, false, false, false, false, false, false] rfl rfl (any_of HT_.out (by kernel_rfl)) (fun _ _ _ h => h) (Or.inl ⟨by rfl, ?_⟩) ?_ ?_
                rotate_left
                ·intro w'
                 go_simp
                 with_reducible rfl
                rotate_left
                ·simp only [Act.put, List.setIfInBounds_toArray, List.set_cons_zero, List.set_cons_succ, i64_w, i32_w]
                 rfl
                refine pure_ (i := 29) (N := some 98) (v := ?_) (a' := ?_) #[true, true, true, true, true, true, true, true, true, true, true, true, true, true, true, true, true, true, true, true, true, true, true, true, true, true, true, false, true, true, false, false, false, false, false, false] rfl rfl (any_of HT_.out (by kernel_rfl)) (fun _ _ _ h => h) (Or.inl ⟨by rfl, ?_⟩) ?_ ?_
                rotate_left
                ·intro w'
                 go_simp
                 with_reducible rfl
                rotate_left
                ·simp only [Act.put, List.setIfInBounds_toArray, List.set_cons_zero, List.set_cons_succ, i64_w, i32_w]
                 rfl
                refine pure_ (i := 30) (N := some 99) (v := ?_) (a' := ?_) #[true, true, true, true, true, true, true, true, true, true, true, true, true, true, true, true, true, true, true, true, true, true, true, true, true, true, true, false, true, true, true, false, false, false, false, false] rfl rfl (any_of HT_.out (by kernel_rfl)) (fun _ _ _ h => h) (Or.inl ⟨by rfl, ?_⟩) ?_ ?_
                rotate_left
                ·intro w'
                 go_simp
                 with_reducible rfl
                rotate_left
                ·simp only [Act.put, List.setIfInBounds_toArray, List.set_cons_zero, List.set_cons_succ, i64_w, i32_w]
                 rfl
                refine take_ (i := 27) (N := some 96) (v := ?_) (a' := ?_) #[true, true, true, true, true, true, true, true, true, true, true, true, true, true, true, true, true, true, true, true, true, true, true, true, true, true, true, true, true, true, true, false, false, false, false, false] rfl rfl (take_ofW HT_.out HW_.out (by kernel_rfl)) (fun _ _ _ h => h) (Or.inl ⟨by rfl, ?_⟩) hHeld ?_ ?_
                rotate_left
                ·rintro w' ⟨s0, s1, s2, s3, s4, s5⟩
                 go_simp
                 with_reducible rfl
                rotate_left
                ·simp only [Act.put, List.setIfInBounds_toArray, List.set_cons_zero, List.set_cons_succ, i64_w, i32_w]
                 rfl
                refine take_ (i := 31) (N := some 100) (v := ?_) (a' := ?_) #[true, true, true, true, true, true, true, true, true, true, true, true, true, true, true, true, true, true, true, true, true, true, true, true, true, true, true, true, true, true, true, true, false, false, false, false] rfl rfl (take_ofW HT_.out HW_.out (by kernel_rfl)) (fun _ _ _ h => h) (Or.inl ⟨by rfl, ?_⟩) hHeld ?_ ?_
                rotate_left
                ·rintro w' ⟨s0, s1, s2, s3, s4, s5⟩
                 go_simp
                 with_reducible rfl
                rotate_left
                ·simp only [Act.put, List.setIfInBounds_toArray, List.set_cons_zero, List.set_cons_succ, i64_w, i32_w]
                 rfl
                refine pure_ (i := 32) (N := some 101) (v := ?_) (a' := ?_) #[true, true, true, true, true, true, true, true, true, true, true, true, true, true, true, true, true, true, true, true, true, true, true, true, true, true, true, true, true, true, true, true, true, false, false, false] rfl rfl (any_of HT_.out (by kernel_rfl)) (fun _ _ _ h => h) (Or.inl ⟨by rfl, ?_⟩) ?_ ?_
                rotate_left
                ·intro w'
                 go_simp
                 with_reducible rfl
                rotate_left
                ·simp only [Act.put, List.setIfInBounds_toArray, List.set_cons_zero, List.set_cons_succ, i64_w, i32_w]
                 rfl
                refine pure_ (i := 33) (N := some 102) (v := ?_) (a' := ?_) #[true, true, true, true, true, true, true, true, true, true, true, true, true, true, true, true, true, true, true, true, true, true, true, true, true, true, true, true, true, true, true, true, true, true, false, false] rfl rfl (any_of HT_.out (by kernel_rfl)) (fun _ _ _ h => h) (Or.inl ⟨by rfl, ?_⟩) ?_ ?_
                rotate_left
                ·intro w'
                 go_simp
                 with_reducible rfl
                rotate_left
                ·simp only [Act.put, List.setIfInBounds_toArray, List.set_cons_zero, List.set_cons_succ, i64_w, i32_w]
                 rfl
                refine pure_ (i := 34) (N := some 103) (v := ?_) (a' := ?_) #[true, true, true, true, true, true, true, true, true, true, true, true, true, true, true, true, true, true, true, true, true, true, true, true, true, true, true, true, true, true, true, true, true, true, true, false] rfl rfl (any_of HT_.out (by kernel_rfl)) (fun _ _ _ h => h) (Or.inl ⟨by rfl, ?_⟩) ?_ ?_
                rotate_left
                ·intro w'
                 go_simp
                 with_reducible rfl
                rotate_left
                ·simp only [Act.put, List.setIfInBounds_toArray, List.set_cons_zero, List.set_cons_succ, i64_w, i32_w]
                 rfl
                refine pure_ (i := 35) (N := some 14) (v := ?_) (a' := ?_) #[true, true, true, true, true, true, true, true, true, true, true, true, true, true, true, true, true, true, true, true, true, true, true, true, true, true, true, true, true, true, true, true, true, true, true, true] rfl rfl (any_of HT_.out (by kernel_rfl)) (fun _ _ _ h => h) (Or.inl ⟨by rfl, ?_⟩) ?_ ?_
                rotate_left
                ·intro w'
                 go_simp
                 with_reducible rfl
                rotate_left
                ·simp only [Act.put, List.setIfInBounds_toArray, List.set_cons_zero, List.set_cons_succ, i64_w, i32_w]
                 rfl
                refine done_ (done_of HT_.out (by kernel_rfl)) ?_
                try go_wp2_with (first | (go_at_call 13; (with_reducible refine (graftwoodlaw03_awake.calls k2  t546 _ A78.out).mono ?_); rintro e w83 ⟨rfl, hb⟩; have n0_ := Aside0.mk (Kd.R_below (by (with_reducible repeat (first | apply Kd.R_alloc | apply Kd.R_drewN | apply Kd.R_drew)); exact HO_11.out) hb); have n1_ := Aside0.mk (Kd.R_below (by (with_reducible repeat (first | apply Kd.R_alloc | apply Kd.R_drewN | apply Kd.R_drew)); exact HO_12.out) hb); have n2_ := Aside0.mk (Kd.R_below (by (with_reducible repeat (first | apply Kd.R_alloc | apply Kd.R_drewN | apply Kd.R_drew)); exact HO_511003.out) hb); have n3_ := Aside0.mk (Kd.R_below (by (with_reducible repeat (first | apply Kd.R_alloc | apply Kd.R_drewN | apply Kd.R_drew)); exact HO_512003.out) hb); have n4_ := Aside0.mk (blk_below (g := gb510) (o := .cells #[.string t512, .string t513, .string t514, .slice Ao17 t515.length co17] 36 (0, 0)) (by (with_reducible repeat (first | refine blk_drewN ?_ _ | refine blk_drew ?_ | refine blk_alloc ?_ _)); exact BK510.out) hb); have n5_ := Aside0.mk (blk_below (g := gb511) (o := .cells #[.string t518, .string t519, .string t520, .slice Ao22 t521.length co22] 36 (0, 0)) (by (with_reducible repeat (first | refine blk_drewN ?_ _ | refine blk_drew ?_ | refine blk_alloc ?_ _)); exact BK511.out) hb); have n6_ := Aside0.mk (below_step (by repeat (first | (with_reducible first | exact HB.out | apply below_alloc | apply pw_below_drewN | apply below_drew1 | refine below_set ?_ GE510.out | refine below_set ?_ GE511.out) | exact HB.out)) hb); clear HO_11; clear HO_12; clear HO_511003; clear HO_512003; clear BK510; clear BK511; clear HB; have HO_11 := n0_; have HO_12 := n1_; have HO_511003 := n2_; have HO_512003 := n3_; have BK510 := n4_; have BK511 := n5_; have HB := n6_; clear n0_ n1_ n2_ n3_ n4_ n5_ n6_; (try clear hb); (try clear hb2); (try clear hk); (try clear hi)))
                go_ret
                exact ⟨by first | rfl | (simp [errW_none, errW_some] <;> rfl) | (simp [*, errW_none, errW_some] <;> rfl), by repeat (first | (with_reducible first | exact HB.out | apply below_alloc | apply pw_below_drewN | apply below_drew1 | refine below_set ?_ GE510.out | refine below_set ?_ GE511.out) | exact HB.out)⟩
              ·rw [if_neg c72] at H
               have c72b0 : ((decide (t528 < 0)) == (Op.bytesLess ((rdOf ByteArray.empty y531 x13_2).toList) ((rdOf ByteArray.empty y534 x13_2).toList))) = false := by simpa using c72
               (try (have c72b1 : decide ((decide (t528 < 0)) = (Op.bytesLess ((rdOf ByteArray.empty y531 x13_2).toList) ((rdOf ByteArray.empty y534 x13_2).toList))) = false := by simpa using c72))
               (try (have c72b2 : ((decide (t528 < 0)) == (Op.bytesLess ((rdOf ByteArray.empty y531 x13_2).toList) ((rdOf ByteArray.empty y534 x13_2).toList))) = false := by simpa using c72))
               (try (have c72b3 : ¬ ((decide (t528 < 0)) = (Op.bytesLess ((rdOf ByteArray.empty y531 x13_2).toList) ((rdOf ByteArray.empty y534 x13_2).toList))) := by simpa using c72))
               clear c72
               exact absurd ((Option.some.inj H).trans hR_) (by decide)
             ·rw [if_neg c71] at H
              have c71b0 : (t529 == 0) = false := beq_eq_false_iff_ne.mpr c71
              have c71b1 : (t529 != 0) = true := bne_iff_ne.mpr c71
              exact absurd ((Option.some.inj H).trans hR_) (by decide)
            ·rw [if_neg c70] at H
             have c70b0 : (((rdOf ByteArray.empty y531 x13_2).size : Int) == ((rdOf ByteArray.empty y534 x13_2).size : Int)) = false := beq_eq_false_iff_ne.mpr c70
             have c70b1 : (((rdOf ByteArray.empty y531 x13_2).size : Int) != ((rdOf ByteArray.empty y534 x13_2).size : Int)) = true := bne_iff_ne.mpr c70
             have c70b2 : ((rdOf ByteArray.empty y531 x13_2).size == (rdOf ByteArray.empty y534 x13_2).size) = false := by first | simpa using c70 | (simp at c70 ⊢; omega)
             by_cases c92 : t529 = 0
             ·rw [if_pos c92] at H
              have c92b0 : (t529 == 0) = true := beq_iff_eq.mpr c92
              have c92b1 : (t529 != 0) = false := bne_eq_false_iff_eq.mpr c92
              clear c92
              by_cases c93 : ((decide (t528 < 0)) == false) = true
              ·rw [if_pos c93] at H
               have c93b0 : ((decide (t528 < 0)) == false) = true := c93
               (try (have c93b1 : decide ((decide (t528 < 0)) = false) = true := by simpa using c93))
               (try (have c93b2 : ((decide (t528 < 0)) == false) = true := by simpa using c93))
               clear c93
               by_cases c94 : t528 = 0
               ·rw [if_pos c94] at H
                have c94b0 : (t528 == 0) = true := beq_iff_eq.mpr c94
                have c94b1 : (t528 != 0) = false := bne_eq_false_iff_eq.mpr c94
                clear c94
                exact absurd ((Option.some.inj H).trans hR_) (by decide)
               ·rw [if_neg c94] at H
                have c94b0 : (t528 == 0) = false := beq_eq_false_iff_ne.mpr c94
                have c94b1 : (t528 != 0) = true := bne_iff_ne.mpr c94
                replace H := Option.bind_eq_some_iff.mp H
                obtain ⟨t547, A990, H⟩ := H
                replace H : (some t547) = some r := H
                have A99 := Aside0.mk A990
                clear A990
                obtain rfl := Option.some.inj H
                try go_wp2
                have n0_ := Aside0.mk (Kd.R_drew HO_11.out)
                have n1_ := Aside0.mk (Kd.R_drew HO_12.out)
                have n2_ := Aside0.mk (Kd.R_drew HO_511003.out)
                have n3_ := Aside0.mk (Kd.R_drew HO_512003.out)
                have n4_ := Aside0.mk (blk_drew BK510.out)
                have n5_ := Aside0.mk (blk_drew BK511.out)
                have n6_ := Aside0.mk (below_drew1 HB.out)
                clear HO_11
                clear HO_12
                clear HO_511003
                clear HO_512003
                clear BK510
                clear BK511
                clear HB
                have HO_11 := n0_
                have HO_12 := n1_
                have HO_511003 := n2_
                have HO_512003 := n3_
                have BK510 := n4_
                have BK511 := n5_
                have HB := n6_
                clear n0_ n1_ n2_ n3_ n4_ n5_ n6_
                obtain ⟨Ao101, co101, eo101⟩ := Kd.R_slice HO_11.out
                (first | subst eo101 | (injection eo101 with f1_ f2_ f3_; have f4_ := f1_.symm; have f5_ := f3_.symm; clear f1_ f2_ f3_; subst f4_; subst f5_))
                have p537 : 0 ≤ (x13_2 : Int) := of_decide_eq_true (by first | (with_reducible assumption) | assumption)
                have q537 : x13_2 < (y531.length : Int) := of_decide_eq_true (by first | (with_reducible assumption) | assumption)
                obtain ⟨ad537, e537, hx537_0⟩ := Kd.at_string (Kd.R_reads' HO_11.out).2.2 x13_2 p537 q537
                cases e537
                replace p537 := eq_true p537
                replace q537 := eq_true q537
                obtain ⟨Ao102, co102, eo102⟩ := Kd.R_slice HO_12.out
                (first | subst eo102 | (injection eo102 with f1_ f2_ f3_; have f4_ := f1_.symm; have f5_ := f3_.symm; clear f1_ f2_ f3_; subst f4_; subst f5_))
                have p538 : 0 ≤ (x13_2 : Int) := of_decide_eq_true (by first | (with_reducible assumption) | assumption)
                have q538 : x13_2 < (y534.length : Int) := of_decide_eq_true (by first | (with_reducible assumption) | assumption)
                obtain ⟨ad538, e538, hx538_0⟩ := Kd.at_string (Kd.R_reads' HO_12.out).2.2 x13_2 p538 q538
                cases e538
                replace p538 := eq_true p538
                replace q538 := eq_true q538
                refine start_ (n := 9) (S := fun w' => w'.cell? (ad537.add (x13_2).toNat) = some (.string (rdOf ByteArray.empty y531 x13_2)) ∧ w'.cell? (ad538.add (x13_2).toNat) = some (.string (rdOf ByteArray.empty y534 x13_2))) (ds := []) #[false, false, false, false, false, false, false, false, false] (by kernel_rfl) rfl rfl ⟨hx537_0, hx538_0⟩ (fun hHeld => ?_); refine with_tabW graftwoodlaw03_VersionCores.tab11 graftwoodlaw03_VersionCores.bits11 (fun HT_ HW_ => ?_)
                generalize wr.drew = w100 at HO_11 HO_12 HO_511003 HO_512003 BK510 BK511 HB hx537_0 hx538_0 hHeld ⊢
                refine pure_ (i := 0) (N := some 60) (v := ?_) (a' := ?_) #[true, false, false, false, false, false, false, false, false] rfl rfl (any_of HT_.out (by kernel_rfl)) (fun _ _ _ h => h) (Or.inl ⟨by rfl, ?_⟩) ?_ ?_
                rotate_left
                ·intro w'
                 go_simp
                 with_reducible rfl
                rotate_left
                ·simp only [Act.put, List.setIfInBounds_toArray, List.set_cons_zero, List.set_cons_succ, i64_w, i32_w]
                 rfl
                refine pure_ (i := 1) (N := some 61) (v := ?_) (a' := ?_) #[true, true, false, false, false, false, false, false, false] rfl rfl (any_of HT_.out (by kernel_rfl)) (fun _ _ _ h => h) (Or.inl ⟨by rfl, ?_⟩) ?_ ?_
                rotate_left
                ·intro w'
                 go_simp
                 with_reducible rfl
                rotate_left
                ·simp only [Act.put, List.setIfInBounds_toArray, List.set_cons_zero, List.set_cons_succ, i64_w, i32_w]
                 rfl
                refine pure_ (i := 2) (N := some 62) (v := ?_) (a' := ?_) #[true, true, true, false, false, false, false, false, false] rfl rfl (any_of HT_.out (by kernel_rfl)) (fun _ _ _ h => h) (Or.inl ⟨by rfl, ?_⟩) ?_ ?_
                rotate_left
                ·intro w'
                 go_simp
                 with_reducible rfl
                rotate_left
                ·simp only [Act.put, List.setIfInBounds_toArray, List.set_cons_zero, List.set_cons_succ, i64_w, i32_w]
                 rfl
                refine pure_ (i := 4) (N := some 64) (v := ?_) (a' := ?_) #[true, true, true, false, true, false, false, false, false] rfl rfl (any_of HT_.out (by kernel_rfl)) (fun _ _ _ h => h) (Or.inl ⟨by rfl, ?_⟩) ?_ ?_
                rotate_left
                ·intro w'
                 go_simp
                 with_reducible rfl
                rotate_left
                ·simp only [Act.put, List.setIfInBounds_toArray, List.set_cons_zero, List.set_cons_succ, i64_w, i32_w]
                 rfl
                refine pure_ (i := 5) (N := some 65) (v := ?_) (a' := ?_) #[true, true, true, false, true, true, false, false, false] rfl rfl (any_of HT_.out (by kernel_rfl)) (fun _ _ _ h => h) (Or.inl ⟨by rfl, ?_⟩) ?_ ?_
                rotate_left
                ·intro w'
                 go_simp
                 with_reducible rfl
                rotate_left
                ·simp only [Act.put, List.setIfInBounds_toArray, List.set_cons_zero, List.set_cons_succ, i64_w, i32_w]
                 rfl
                refine pure_ (i := 6) (N := some 66) (v := ?_) (a' := ?_) #[true, true, true, false, true, true, true, false, false] rfl rfl (any_of HT_.out (by kernel_rfl)) (fun _ _ _ h => h) (Or.inl ⟨by rfl, ?_⟩) ?_ ?_
                rotate_left
                ·intro w'
                 go_simp
                 with_reducible rfl
                rotate_left
                ·simp only [Act.put, List.setIfInBounds_toArray, List.set_cons_zero, List.set_cons_succ, i64_w, i32_w]
                 rfl
                refine take_ (i := 3) (N := some 63) (v := ?_) (a' := ?_) #[true, true, true, true, true, true, true, false, false] rfl rfl (take_ofW HT_.out HW_.out (by kernel_rfl)) (fun _ _ _ h => h) (Or.inl ⟨by rfl, ?_⟩) hHeld ?_ ?_
                rotate_left
                ·rintro w' ⟨s0, s1⟩
                 go_simp
                 with_reducible rfl
                rotate_left
                ·simp only [Act.put, List.setIfInBounds_toArray, List.set_cons_zero, List.set_cons_succ, i64_w, i32_w]
                 rfl
                refine take_ (i := 7) (N := some 67) (v := ?_) (a' := ?_) #[true, true, true, true, true, true, true, true, false] rfl rfl (take_ofW HT_.out HW_.out (by kernel_rfl)) (fun _ _ _ h => h) (Or.inl ⟨by rfl, ?_⟩) hHeld ?_ ?_
                rotate_left
                ·rintro w' ⟨s0, s1⟩
                 go_simp
                 with_reducible rfl
                rotate_left
                ·simp only [Act.put, List.setIfInBounds_toArray, List.set_cons_zero, List.set_cons_succ, i64_w, i32_w]
                 rfl
                refine pure_ (i := 8) (N := some 68) (v := ?_) (a' := ?_) #[true, true, true, true, true, true, true, true, true] rfl rfl (any_of HT_.out (by kernel_rfl)) (fun _ _ _ h => h) (Or.inl ⟨by rfl, ?_⟩) ?_ ?_
                rotate_left
                ·intro w'
                 go_simp
                 with_reducible rfl
                rotate_left
                ·simp only [Act.put, List.setIfInBounds_toArray, List.set_cons_zero, List.set_cons_succ, i64_w, i32_w]
                 rfl
                refine done_ (done_of HT_.out (by kernel_rfl)) ?_
                try go_wp2
                have n0_ := Aside0.mk (Kd.R_drew HO_11.out)
                have n1_ := Aside0.mk (Kd.R_drew HO_12.out)
                have n2_ := Aside0.mk (Kd.R_drew HO_511003.out)
                have n3_ := Aside0.mk (Kd.R_drew HO_512003.out)
                have n4_ := Aside0.mk (blk_drew BK510.out)
                have n5_ := Aside0.mk (blk_drew BK511.out)
                have n6_ := Aside0.mk (below_drew1 HB.out)
                clear HO_11
                clear HO_12
                clear HO_511003
                clear HO_512003
                clear BK510
                clear BK511
                clear HB
                have HO_11 := n0_
                have HO_12 := n1_
                have HO_511003 := n2_
                have HO_512003 := n3_
                have BK510 := n4_
                have BK511 := n5_
                have HB := n6_
                clear n0_ n1_ n2_ n3_ n4_ n5_ n6_
                have p539 : 0 ≤ (x13_2 : Int) := of_decide_eq_true (by first | (with_reducible assumption) | assumption)
                have q539 : x13_2 < (y531.length : Int) := of_decide_eq_true (by first | (with_reducible assumption) | assumption)
                obtain ⟨ad539, e539, hx539_0⟩ := Kd.at_string (Kd.R_reads' HO_11.out).2.2 x13_2 p539 q539
                obtain rfl : ad537 = ad539 := (by injection e539)
                replace p539 := eq_true p539
                replace q539 := eq_true q539
                have p540 : 0 ≤ (x13_2 : Int) := of_decide_eq_true (by first | (with_reducible assumption) | assumption)
                have q540 : x13_2 < (y534.length : Int) := of_decide_eq_true (by first | (with_reducible assumption) | assumption)
                obtain ⟨ad540, e540, hx540_0⟩ := Kd.at_string (Kd.R_reads' HO_12.out).2.2 x13_2 p540 q540
                obtain rfl : ad538 = ad540 := (by injection e540)
                replace p540 := eq_true p540
                replace q540 := eq_true q540
                have p542 : 0 ≤ (x13_2 : Int) := of_decide_eq_true (by first | (with_reducible assumption) | assumption)
                have q542 : x13_2 < (y531.length : Int) := of_decide_eq_true (by first | (with_reducible assumption) | assumption)
                obtain ⟨ad542, e542, hx542_0⟩ := Kd.at_string (Kd.R_reads' HO_11.out).2.2 x13_2 p542 q542
                obtain rfl : ad537 = ad542 := (by injection e542)
                replace p542 := eq_true p542
                replace q542 := eq_true q542
                have p543 : 0 ≤ (x13_2 : Int) := of_decide_eq_true (by first | (with_reducible assumption) | assumption)
                have q543 : x13_2 < (y534.length : Int) := of_decide_eq_true (by first | (with_reducible assumption) | assumption)
                obtain ⟨ad543, e543, hx543_0⟩ := Kd.at_string (Kd.R_reads' HO_12.out).2.2 x13_2 p543 q543
                obtain rfl : ad538 = ad543 := (by injection e543)
                replace p543 := eq_true p543
                replace q543 := eq_true q543
                refine start_ (n := 36) (S := fun w' => w'.cell? (ad537.add (x13_2).toNat) = some (.string (rdOf ByteArray.empty y531 x13_2)) ∧ w'.cell? (ad538.add (x13_2).toNat) = some (.string (rdOf ByteArray.empty y534 x13_2)) ∧ w'.cell? (ad537.add (x13_2).toNat) = some (.string (rdOf ByteArray.empty y531 x13_2)) ∧ w'.cell? (ad538.add (x13_2).toNat) = some (.string (rdOf ByteArray.empty y534 x13_2))) (ds := []) #[false, false, false, false, false, false, false, false, false, false, false, false, false, false, false, false, false, false, false, false, false, false, false, false, false, false, false, false, false, false, false, false, false, false, false, false] (by kernel_rfl) rfl rfl ⟨hx539_0, hx540_0, hx542_0, hx543_0⟩ (fun hHeld => ?_); refine with_tabW graftwoodlaw03_VersionCores.tab12 graftwoodlaw03_VersionCores.bits12 (fun HT_ HW_ => ?_)
                generalize w100.drew = w103 at HO_11 HO_12 HO_511003 HO_512003 BK510 BK511 HB hx539_0 hx540_0 hx542_0 hx543_0 hHeld ⊢
                refine pure_ (i := 0) (N := some 69) (v := ?_) (a' := ?_) #[true, false, false, false, false, false, false, false, false, false, false, false, false, false, false, false, false, false, false, false, false, false, false, false, false, false, false, false, false, false, false, false, false, false, false, false] rfl rfl (any_of HT_.out (by kernel_rfl)) (fun _ _ _ h => h) (Or.inl ⟨by rfl, ?_⟩) ?_ ?_
                rotate_left
                ·intro w'
                 go_simp
                 with_reducible rfl
                rotate_left
                ·simp only [Act.put, List.setIfInBounds_toArray, List.set_cons_zero, List.set_cons_succ, i64_w, i32_w]
                 rfl
                refine pure_ (i := 1) (N := some 70) (v := ?_) (a' := ?_) #[true, true, false, false, false, false, false, false, false, false, false, false, false, false, false, false, false, false, false, false, false, false, false, false, false, false, false, false, false, false, false, false, false, false, false, false] rfl rfl (any_of HT_.out (by kernel_rfl)) (fun _ _ _ h => h) (Or.inl ⟨by rfl, ?_⟩) ?_ ?_
                rotate_left
                ·intro w'
                 go_simp
                 with_reducible rfl
                rotate_left
                ·simp only [Act.put, List.setIfInBounds_toArray, List.set_cons_zero, List.set_cons_succ, i64_w, i32_w]
                 rfl
                refine pure_ (i := 2) (N := some 71) (v := ?_) (a' := ?_) #[true, true, true, false, false, false, false, false, false, false, false, false, false, false, false, false, false, false, false, false, false, false, false, false, false, false, false, false, false, false, false, false, false, false, false, false] rfl rfl (any_of HT_.out (by kernel_rfl)) (fun _ _ _ h => h) (Or.inl ⟨by rfl, ?_⟩) ?_ ?_
                rotate_left
                ·intro w'
                 go_simp
                 with_reducible rfl
                rotate_left
                ·simp only [Act.put, List.setIfInBounds_toArray, List.set_cons_zero, List.set_cons_succ, i64_w, i32_w]
                 rfl
                refine pure_ (i := 5) (N := some 74) (v := ?_) (a' := ?_) #[true, true, true, false, false, true, false, false, false, false, false, false, false, false, false, false, false, false, false, false, false, false, false, false, false, false, false, false, false, false, false, false, false, false, false, false] rfl rfl (any_of HT_.out (by kernel_rfl)) (fun _ _ _ h => h) (Or.inl ⟨by rfl, ?_⟩) ?_ ?_
                rotate_left
                ·intro w'
                 go_simp
                 with_reducible rfl
                rotate_left
                ·simp only [Act.put, List.setIfInBounds_toArray, List.set_cons_zero, List.set_cons_succ, i64_w, i32_w]
                 rfl
                refine pure_ (i := 6) (N := some 75) (v := ?_) (a' := ?_) #[true, true, true, false, false, true, true, false, false, false, false, false, false, false, false, false, false, false, false, false, false, false, false, false, false, false, false, false, false, false, false, false, false, false, false, false] rfl rfl (any_of HT_.out (by kernel_rfl)) (fun _ _ _ h => h) (Or.inl ⟨by rfl, ?_⟩) ?_ ?_
                rotate_left
                ·intro w'
                 go_simp
                 with_reducible rfl
                rotate_left
                ·simp only [Act.put, List.setIfInBounds_toArray, List.set_cons_zero, List.set_cons_succ, i64_w, i32_w]
                 rfl
                refine pure_ (i := 7) (N := some 76) (v := ?_) (a' := ?_) #[true, true, true, false, false, true, true, true, false, false, false, false, false, false, false, false, false, false, false, false, false, false, false, false, false, false, false, false, false, false, false, false, false, false, false, false] rfl rfl (any_of HT_.out (by kernel_rfl)) (fun _ _ _ h => h) (Or.inl ⟨by rfl, ?_⟩) ?_ ?_
                rotate_left
                ·intro w'
                 go_simp
                 with_reducible rfl
                rotate_left
                ·simp only [Act.put, List.setIfInBounds_toArray, List.set_cons_zero, List.set_cons_succ, i64_w, i32_w]
                 rfl
                refine take_ (i := 3) (N := some 72) (v := ?_) (a' := ?_) #[true, true, true, true, false, true, true, true, false, false, false, false, false, false, false, false, false, false, false, false, false, false, false, false, false, false, false, false, false, false, false, false, false, false, false, false] rfl rfl (take_ofW HT_.out HW_.out (by kernel_rfl)) (fun _ _ _ h => h) (Or.inl ⟨by rfl, ?_⟩) hHeld ?_ ?_
                rotate_left
                ·rintro w' ⟨s0, s1, s2, s3⟩
                 go_simp
                 with_reducible rfl
                rotate_left
                ·simp only [Act.put, List.setIfInBounds_toArray, List.set_cons_zero, List.set_cons_succ, i64_w, i32_w]
                 rfl
                refine pure_ (i := 4) (N := some 73) (v := ?_) (a' := ?_) #[true, true, true, true, true, true, true, true, false, false, false, false, false, false, false, false, false, false, false, false, false, false, false, false, false, false, false, false, false, false, false, false, false, false, false, false] rfl rfl (any_of HT_.out (by kernel_rfl)) (fun _ _ _ h => h) (Or.inl ⟨by rfl, ?_⟩) ?_ ?_
                rotate_left
                ·intro w'
                 go_simp
                 with_reducible rfl
                rotate_left
                ·simp only [Act.put, List.setIfInBounds_toArray, List.set_cons_zero, List.set_cons_succ, i64_w, i32_w]
                 rfl
                refine take_ (i := 8) (N := some 77) (v := ?_) (a' := ?_) #[true, true, true, true, true, true, true, true, true, false, false, false, false, false, false, false, false, false, false, false, false, false, false, false, false, false, false, false, false, false, false, false, false, false, false, false] rfl rfl (take_ofW HT_.out HW_.out (by kernel_rfl)) (fun _ _ _ h => h) (Or.inl ⟨by rfl, ?_⟩) hHeld ?_ ?_
                rotate_left
                ·rintro w' ⟨s0, s1, s2, s3⟩
                 go_simp
                 with_reducible rfl
                rotate_left
                ·simp only [Act.put, List.setIfInBounds_toArray, List.set_cons_zero, List.set_cons_succ, i64_w, i32_w]
                 rfl
                refine pure_ (i := 9) (N := some 78) (v := ?_) (a' := ?_) #[true, true, true, true, true, true, true, true, true, true, false, false, false, false, false, false, false, false, false, false, false, false, false, false, false, false, false, false, false, false, false, false, false, false, false, false] rfl rfl (any_of HT_.out (by kernel_rfl)) (fun _ _ _ h => h) (Or.inl ⟨by rfl, ?_⟩) ?_ ?_
                rotate_left
                ·intro w'
                 go_simp
                 with_reducible rfl
                rotate_left
                ·simp only [Act.put, List.setIfInBounds_toArray, List.set_cons_zero, List.set_cons_succ, i64_w, i32_w]
                 rfl
                refine pure_ (i := 10) (N := some 79) (v := ?_) (a' := ?_) #[true, true, true, true, true, true, true, true, true, true, true, false, false, false, false, false, false, false, false, false, false, false, false, false, false, false, false, false, false, false, false, false, false, false, false, false] rfl rfl (any_of HT_.out (by kernel_rfl)) (fun _ _ _ h => h) (Or.inl ⟨by rfl, ?_⟩) ?_ ?_
                rotate_left
                ·intro w'
                 go_simp
                 with_reducible rfl
                rotate_left
                ·simp only [Act.put, List.setIfInBounds_toArray, List.set_cons_zero, List.set_cons_succ, i64_w, i32_w]
                 rfl
                refine pure_ (i := 11) (N := some 80) (v := ?_) (a' := ?_) #[true, true, true, true, true, true, true, true, true, true, true, true, false, false, false, false, false, false, false, false, false, false, false, false, false, false, false, false, false, false, false, false, false, false, false, false] rfl rfl (any_of HT_.out (by kernel_rfl)) (fun _ _ _ h => h) (Or.inl ⟨by rfl, ?_⟩) ?_ ?_
                rotate_left
                ·intro w'
                 go_simp
                 with_reducible rfl
                rotate_left
                ·simp only [Act.put, List.setIfInBounds_toArray, List.set_cons_zero, List.set_cons_succ, i64_w, i32_w]
                 rfl
                refine pure_ (i := 12) (N := some 81) (v := ?_) (a' := ?_) #[true, true, true, true, true, true, true, true, true, true, true, true, true, false, false, false, false, false, false, false, false, false, false, false, false, false, false, false, false, false, false, false, false, false, false, false] rfl rfl (any_of HT_.out (by kernel_rfl)) (fun _ _ _ h => h) (Or.inl ⟨by rfl, ?_⟩) ?_ ?_
                rotate_left
                ·intro w'
                 go_simp
                 with_reducible rfl
                rotate_left
                ·simp only [Act.put, List.setIfInBounds_toArray, List.set_cons_zero, List.set_cons_succ, i64_w, i32_w]
                 rfl
                refine pure_ (i := 13) (N := some 82) (v := ?_) (a' := ?_) #[true, true, true, true, true, true, true, true, true, true, true, true, true, true, false, false, false, false, false, false, false, false, false, false, false, false, false, false, false, false, false, false, false, false, false, false] rfl rfl (any_of HT_.out (by kernel_rfl)) (fun _ _ _ h => h) (Or.inl ⟨by rfl, ?_⟩) ?_ ?_
                rotate_left
                ·intro w'
                 go_simp
                 with_reducible rfl
                rotate_left
                ·simp only [Act.put, List.setIfInBounds_toArray, List.set_cons_zero, List.set_cons_succ, i64_w, i32_w]
                 rfl
                refine pure_ (i := 14) (N := some 83) (v := ?_) (a' := ?_) #[true, true, true, true, true, true, true, true, true, true, true, true, true, true, true, false, false, false, false, false, false, false, false, false, false, false, false, false, false, false, false, false, false, false, false, false] rfl rfl (any_of HT_.out (by kernel_rfl)) (fun _ _ _ h => h) (Or.inl ⟨by rfl, ?_⟩) ?_ ?_
                rotate_left
                ·intro w'
                 go_simp
                 with_reducible rfl
                rotate_left
                ·simp only [Act.put, List.setIfInBounds_toArray, List.set_cons_zero, List.set_cons_succ, i64_w, i32_w]
                 rfl
                refine pure_ (i := 17) (N := some 86) (v := ?_) (a' := ?_) #[true, true, true, true, true, true, true, true, true, true, true, true, true, true, true, false, false, true, false, false, false, false, false, false, false, false, false, false, false, false, false, false, false, false, false, false] rfl rfl (any_of HT_.out (by kernel_rfl)) (fun _ _ _ h => h) (Or.inl ⟨by rfl, ?_⟩) ?_ ?_
                rotate_left
                ·intro w'
                 go_simp
                 with_reducible rfl
                rotate_left
                ·simp only [Act.put, List.setIfInBounds_toArray, List.set_cons_zero, List.set_cons_succ, i64_w, i32_w]
                 rfl
                refine pure_ (i := 18) (N := some 87) (v := ?_) (a' := ?_) #[true, true, true, true, true, true, true, true, true, true, true, true, true, true, true, false, false, true, true, false, false, false, false, false, false, false, false, false, false, false, false, false, false, false, false, false] rfl rfl (any_of HT_.out (by kernel_rfl)) (fun _ _ _ h => h) (Or.inl ⟨by rfl, ?_⟩) ?_ ?_
                rotate_left
                ·intro w'
                 go_simp
                 with_reducible rfl
                rotate_left
                ·simp only [Act.put, List.setIfInBounds_toArray, List.set_cons_zero, List.set_cons_succ, i64_w, i32_w]
                 rfl
                refine pure_ (i := 19) (N := some 88) (v := ?_) (a' := ?_) #[true, true, true, true, true, true, true, true, true, true, true, true, true, true, true, false, false, true, true, true, false, false, false, false, false, false, false, false, false, false, false, false, false, false, false, false] rfl rfl (any_of HT_.out (by kernel_rfl)) (fun _ _ _ h => h) (Or.inl ⟨by rfl, ?_⟩) ?_ ?_
                rotate_left
                ·intro w'
                 go_simp
                 with_reducible rfl
                rotate_left
                ·simp only [Act.put, List.setIfInBounds_toArray, List.set_cons_zero, List.set_cons_succ, i64_w, i32_w]
                 rfl
                refine take_ (i := 15) (N := some 84) (v := ?_) (a' := ?_) #[true, true, true, true, true, true, true, true, true, true, true, true, true, true, true, true, false, true, true, true, false, false, false, false, false, false, false, false, false, false, false, false, false, false, false, false] rfl rfl (take_ofW HT_.out HW_.out (by kernel_rfl)) (fun _ _ _ h => h) (Or.inl ⟨by rfl, ?_⟩) hHeld ?_ ?_
                rotate_left
                ·rintro w' ⟨s0, s1, s2, s3⟩
                 go_simp
                 with_reducible rfl
                rotate_left
                ·simp only [Act.put, List.setIfInBounds_toArray, List.set_cons_zero, List.set_cons_succ, i64_w, i32_w]
                 rfl
                refine pure_ (i := 16) (N := some 85) (v := ?_) (a' := ?_) #[true, true, true, true, true, true, true, true, true, true, true, true, true, true, true, true, true, true, true, true, false, false, false, false, false, false, false, false, false, false, false, false, false, false, false, false] rfl rfl (any_of HT_.out (by kernel_rfl)) (fun _ _ _ h => h) (Or.inl ⟨by rfl, ?_⟩) ?_ ?_
                rotate_left
                ·intro w'
                 go_simp
                 with_reducible rfl
                rotate_left
                ·simp only [Act.put, List.setIfInBounds_toArray, List.set_cons_zero, List.set_cons_succ, i64_w, i32_w]
                 rfl
                refine take_ (i := 20) (N := some 89) (v := ?_) (a' := ?_) #[true, true, true, true, true, true, true, true, true, true, true, true, true, true, true, true, true, true, true, true, true, false, false, false, false, false, false, false, false, false, false, false, false, false, false, false] rfl rfl (take_ofW HT_.out HW_.out (by kernel_rfl)) (fun _ _ _ h => h) (Or.inl ⟨by rfl, ?_⟩) hHeld ?_ ?_
                rotate_left
                ·rintro w' ⟨s0, s1, s2, s3⟩
                 go_simp
                 with_reducible rfl
                rotate_left
                ·simp only [Act.put, List.setIfInBounds_toArray, List.set_cons_zero, List.set_cons_succ, i64_w, i32_w]
                 rfl
                refine pure_ (i := 21) (N := some 90) (v := ?_) (a' := ?_) #[true, true, true, true, true, true, true, true, true, true, true, true, true, true, true, true, true, true, true, true, true, true, false, false, false, false, false, false, false, false, false, false, false, false, false, false] rfl rfl (any_of HT_.out (by kernel_rfl)) (fun _ _ _ h => h) (Or.inl ⟨by rfl, ?_⟩) ?_ ?_
                rotate_left
                ·intro w'
                 go_simp
                 with_reducible rfl
                rotate_left
                ·simp only [Act.put, List.setIfInBounds_toArray, List.set_cons_zero, List.set_cons_succ, i64_w, i32_w]
                 rfl
                refine pure_ (i := 22) (N := some 91) (v := ?_) (a' := ?_) #[true, true, true, true, true, true, true, true, true, true, true, true, true, true, true, true, true, true, true, true, true, true, true, false, false, false, false, false, false, false, false, false, false, false, false, false] rfl rfl (any_of HT_.out (by kernel_rfl)) (fun _ _ _ h => h) (Or.inl ⟨by rfl, ?_⟩) ?_ ?_
                rotate_left
                ·intro w'
                 go_simp
                 with_reducible rfl
                rotate_left
                ·simp only [Act.put, List.setIfInBounds_toArray, List.set_cons_zero, List.set_cons_succ, i64_w, i32_w]
                 rfl
                refine pure_ (i := 23) (N := some 92) (v := ?_) (a' := ?_) #[true, true, true, true, true, true, true, true, true, true, true, true, true, true, true, true, true, true, true, true, true, true, true, true, false, false, false, false, false, false, false, false, false, false, false, false] rfl rfl (any_of HT_.out (by kernel_rfl)) (fun _ _ _ h => h) (Or.inl ⟨by rfl, ?_⟩) ?_ ?_
                rotate_left
                ·intro w'
                 go_simp
                 with_reducible rfl
                rotate_left
                ·simp only [Act.put, List.setIfInBounds_toArray, List.set_cons_zero, List.set_cons_succ, i64_w, i32_w]
                 rfl
                refine pure_ (i := 24) (N := some 93) (v := undef) (a' := ?_) #[true, true, true, true, true, true, true, true, true, true, true, true, true, true, true, true, true, true, true, true, true, true, true, true, true, false, false, false, false, false, false, false, false, false, false, false] rfl rfl (any_of HT_.out (by kernel_rfl)) (fun _ _ _ h => h) (Or.inr ⟨by rfl, rfl⟩) ?_ ?_
                rotate_left
                ·simp only [Act.put, List.setIfInBounds_toArray, List.set_cons_zero, List.set_cons_succ, i64_w, i32_w]
                 rfl
                refine pure_ (i := 25) (N := some 94) (v := undef) (a' := ?_) #[true, true, true, true, true, true, true, true, true, true, true, true, true, true, true, true, true, true, true, true, true, true, true, true, true, true, false, false, false, false, false, false, false, false, false, false] rfl rfl (any_of HT_.out (by kernel_rfl)) (fun _ _ _ h => h) (Or.inr ⟨by rfl, rfl⟩) ?_ ?_
                rotate_left
                ·simp only [Act.put, List.setIfInBounds_toArray, List.set_cons_zero, List.set_cons_succ, i64_w, i32_w]
                 rfl
                refine pure_ (i := 26) (N := some 95) (v := undef) (a' := ?_) #[true, true, true, true, true, true, true, true, true, true, true, true, true, true, true, true, true, true, true, true, true, true, true, true, true, true, true, false, false, false, false, false, false, false, false, false] rfl rfl (any_of HT_.out (by kernel_rfl)) (fun _ _ _ h => h) (Or.inr ⟨by rfl, rfl⟩) ?_ ?_
                rotate_left
                ·simp only [Act.put, List.setIfInBounds_toArray, List.set_cons_zero, List.set_cons_succ, i64_w, i32_w]
                 rfl
                refine pure_ (i := 27) (N := some 96) (v := undef) (a' := ?_) #[true, true, true, true, true, true, true, true, true, true, true, true, true, true, true, true, true, true, true, true, true, true, true, true, true, true, true, true, false, false, false, false, false, false, false, false] rfl rfl (any_of HT_.out (by kernel_rfl)) (fun _ _ _ h => h) (Or.inr ⟨by rfl, rfl⟩) ?_ ?_
                rotate_left
                ·simp only [Act.put, List.setIfInBounds_toArray, List.set_cons_zero, List.set_cons_succ, i64_w, i32_w]
                 rfl
                refine pure_ (i := 28) (N := some 97) (v := undef) (a' := ?_) #[true, true, true, true, true, true, true, true, true, true, true, true, true, true, true, true, true, true, true, true, true, true, true, true, true, true, true, true, true, false, false, false, false, false, false, false] rfl rfl (any_of HT_.out (by kernel_rfl)) (fun _ _ _ h => h) (Or.inr ⟨by rfl, rfl⟩) ?_ ?_
                rotate_left
                ·simp only [Act.put, List.setIfInBounds_toArray, List.set_cons_zero, List.set_cons_succ, i64_w, i32_w]
                 rfl
                refine pure_ (i := 29) (N := some 98) (v := undef) (a' := ?_) #[true, true, true, true, true, true, true, true, true, true, true, true, true, true, true, true, true, true, true, true, true, true, true, true, true, true, true, true, true, true, false, false, false, false, false, false] rfl rfl (any_of HT_.out (by kernel_rfl)) (fun _ _ _ h => h) (Or.inr ⟨by rfl, rfl⟩) ?_ ?_
                rotate_left
                ·simp only [Act.put, List.setIfInBounds_toArray, List.set_cons_zero, List.set_cons_succ, i64_w, i32_w]
                 rfl
                refine pure_ (i := 30) (N := some 99) (v := undef) (a' := ?_) #[true, true, true, true, true, true, true, true, true, true, true, true, true, true, true, true, true, true, true, true, true, true, true, true, true, true, true, true, true, true, true, false, false, false, false, false] rfl rfl (any_of HT_.out (by kernel_rfl)) (fun _ _ _ h => h) (Or.inr ⟨by rfl, rfl⟩) ?_ ?_
                rotate_left
                ·simp only [Act.put, List.setIfInBounds_toArray, List.set_cons_zero, List.set_cons_succ, i64_w, i32_w]
                 rfl
                refine pure_ (i := 31) (N := some 100) (v := undef) (a' := ?_) #[true, true, true, true, true, true, true, true, true, true, true, true, true, true, true, true, true, true, true, true, true, true, true, true, true, true, true, true, true, true, true, true, false, false, false, false] rfl rfl (any_of HT_.out (by kernel_rfl)) (fun _ _ _ h => h) (Or.inr ⟨by rfl, rfl⟩) ?_ ?_
                rotate_left
                ·simp only [Act.put, List.setIfInBounds_toArray, List.set_cons_zero, List.set_cons_succ, i64_w, i32_w]
                 rfl
                refine pure_ (i := 32) (N := some 101) (v := undef) (a' := ?_) #[true, true, true, true, true, true, true, true, true, true, true, true, true, true, true, true, true, true, true, true, true, true, true, true, true, true, true, true, true, true, true, true, true, false, false, false] rfl rfl (any_of HT_.out (by kernel_rfl)) (fun _ _ _ h => h) (Or.inr ⟨by rfl, rfl⟩) ?_ ?_
                rotate_left
                ·simp only [Act.put, List.setIfInBounds_toArray, List.set_cons_zero, List.set_cons_succ, i64_w, i32_w]
                 rfl
                refine pure_ (i := 33) (N := some 102) (v := ?_) (a' := ?_) #[true, true, true, true, true, true, true, true, true, true, true, true, true, true, true, true, true, true, true, true, true, true, true, true, true, true, true, true, true, true, true, true, true, true, false, false] rfl rfl (any_of HT_.out (by kernel_rfl)) (fun _ _ _ h => h) (Or.inl ⟨by rfl, ?_⟩) ?_ ?_
                rotate_left
                ·intro w'
                 go_simp
                 with_reducible rfl
                rotate_left
                ·simp only [Act.put, List.setIfInBounds_toArray, List.set_cons_zero, List.set_cons_succ, i64_w, i32_w]
                 rfl
                refine pure_ (i := 34) (N := some 103) (v := ?_) (a' := ?_) #[true, true, true, true, true, true, true, true, true, true, true, true, true, true, true, true, true, true, true, true, true, true, true, true, true, true, true, true, true, true, true, true, true, true, true, false] rfl rfl (any_of HT_.out (by kernel_rfl)) (fun _ _ _ h => h) (Or.inl ⟨by rfl, ?_⟩) ?_ ?_
                rotate_left
                ·intro w'
                 go_simp
                 with_reducible rfl
                rotate_left
                ·simp only [Act.put, List.setIfInBounds_toArray, List.set_cons_zero, List.set_cons_succ, i64_w, i32_w]
                 rfl
                refine pure_ (i := 35) (N := some 14) (v := ?_) (a' := ?_) #[true, true, true, true, true, true, true, true, true, true, true, true, true, true, true, true, true, true, true, true, true, true, true, true, true, true, true, true, true, true, true, true, true, true, true, true] rfl rfl (any_of HT_.out (by kernel_rfl)) (fun _ _ _ h => h) (Or.inl ⟨by rfl, ?_⟩) ?_ ?_
                rotate_left
                ·intro w'
                 go_simp
                 with_reducible rfl
                rotate_left
                ·simp only [Act.put, List.setIfInBounds_toArray, List.set_cons_zero, List.set_cons_succ, i64_w, i32_w]
                 rfl
                refine done_ (done_of HT_.out (by kernel_rfl)) ?_
                try go_wp2_with (first | (go_at_call 13; (with_reducible refine (graftwoodlaw03_awake.calls k2  t547 _ A99.out).mono ?_); rintro e w104 ⟨rfl, hb⟩; have n0_ := Aside0.mk (Kd.R_below (by (with_reducible repeat (first | apply Kd.R_alloc | apply Kd.R_drewN | apply Kd.R_drew)); exact HO_11.out) hb); have n1_ := Aside0.mk (Kd.R_below (by (with_reducible repeat (first | apply Kd.R_alloc | apply Kd.R_drewN | apply Kd.R_drew)); exact HO_12.out) hb); have n2_ := Aside0.mk (Kd.R_below (by (with_reducible repeat (first | apply Kd.R_alloc | apply Kd.R_drewN | apply Kd.R_drew)); exact HO_511003.out) hb); have n3_ := Aside0.mk (Kd.R_below (by (with_reducible repeat (first | apply Kd.R_alloc | apply Kd.R_drewN | apply Kd.R_drew)); exact HO_512003.out) hb); have n4_ := Aside0.mk (blk_below (g := gb510) (o := .cells #[.string t512, .string t513, .string t514, .slice Ao17 t515.length co17] 36 (0, 0)) (by (with_reducible repeat (first | refine blk_drewN ?_ _ | refine blk_drew ?_ | refine blk_alloc ?_ _)); exact BK510.out) hb); have n5_ := Aside0.mk (blk_below (g := gb511) (o := .cells #[.string t518, .string t519, .string t520, .slice Ao22 t521.length co22] 36 (0, 0)) (by (with_reducible repeat (first | refine blk_drewN ?_ _ | refine blk_drew ?_ | refine blk_alloc ?_ _)); exact BK511.out) hb); have n6_ := Aside0.mk (below_step (by repeat (first | (with_reducible first | exact HB.out | apply below_alloc | apply pw_below_drewN | apply below_drew1 | refine below_set ?_ GE510.out | refine below_set ?_ GE511.out) | exact HB.out)) hb); clear HO_11; clear HO_12; clear HO_511003; clear HO_512003; clear BK510; clear BK511; clear HB; have HO_11 := n0_; have HO_12 := n1_; have HO_511003 := n2_; have HO_512003 := n3_; have BK510 := n4_; have BK511 := n5_; have HB := n6_; clear n0_ n1_ n2_ n3_ n4_ n5_ n6_; (try clear hb); (try clear hb2); (try clear hk); (try clear hi)))
                go_ret
                exact ⟨by first | rfl | (simp [errW_none, errW_some] <;> rfl) | (simp [*, errW_none, errW_some] <;> rfl), by repeat (first | (with_reducible first | exact HB.out | apply below_alloc | apply pw_below_drewN | apply below_drew1 | refine below_set ?_ GE510.out | refine below_set ?_ GE511.out) | exact HB.out)⟩
              ·rw [if_neg c93] at H
               have c93b0 : ((decide (t528 < 0)) == false) = false := by simpa using c93
               (try (have c93b1 : decide ((decide (t528 < 0)) = false) = false := by simpa using c93))
               (try (have c93b2 : ((decide (t528 < 0)) == false) = false := by simpa using c93))
               (try (have c93b3 : ¬ ((decide (t528 < 0)) = false) := by simpa using c93))
               clear c93
               exact absurd ((Option.some.inj H).trans hR_) (by decide)
             ·rw [if_neg c92] at H
              have c92b0 : (t529 == 0) = false := beq_eq_false_iff_ne.mpr c92
              have c92b1 : (t529 != 0) = true := bne_iff_ne.mpr c92
              exact absurd ((Option.some.inj H).trans hR_) (by decide)
         ·rw [if_neg c43] at H
          exact absurd H (by simp)
        ·rw [if_neg c42] at H
         exact absurd H (by simp)
       ·rw [if_neg c41] at H
        exact absurd H (by simp)
      ·rw [if_neg c40] at H
       have c40b0 : decide (x13_2 < 3) = false := decide_eq_false c40
       clear c40
       by_cases c113 : t529 = 0
       ·rw [if_pos c113] at H
        have c113b0 : (t529 == 0) = true := beq_iff_eq.mpr c113
        have c113b1 : (t529 != 0) = false := bne_eq_false_iff_eq.mpr c113
        clear c113
        by_cases c114 : (t515.length : Int) > 0
        ·rw [if_pos c114] at H
         have c114b0 : decide (0 < (t515.length : Int)) = true := decide_eq_true c114
         have c114b1 : decide (0 < t515.length) = true := decide_eq_true (by omega)
         clear c114
         by_cases c115 : (t515.length : Int) = 0
         ·rw [if_pos c115] at H
          have c115b0 : ((t515.length : Int) == 0) = true := beq_iff_eq.mpr c115
          have c115b1 : ((t515.length : Int) != 0) = false := bne_eq_false_iff_eq.mpr c115
          clear c115
          replace H := Option.bind_eq_some_iff.mp H
          obtain ⟨t548, A1160, H⟩ := H
          replace H : (some t548) = some r := H
          have A116 := Aside0.mk A1160
          clear A1160
          obtain rfl := Option.some.inj H
          have hnb117 := NB510_511.out
          have hnc117 := NB511_510.out
          have hcz118_0 : wr.cell? ⟨gb510, 0, none⟩ = some (.string t512) := (blk_cell BK510.out 0).trans rfl
          have hcz118_1 : wr.cell? ⟨gb510, 1, none⟩ = some (.string t513) := (blk_cell BK510.out 1).trans rfl
          have hcz118_2 : wr.cell? ⟨gb510, 2, none⟩ = some (.string t514) := (blk_cell BK510.out 2).trans rfl
          have hcz118_3 : wr.cell? ⟨gb510, 3, none⟩ = some (.slice Ao17 t515.length co17) := (blk_cell BK510.out 3).trans rfl
          have hfz118_0 := blk_frozen BK510.out 0
          have hfz118_1 := blk_frozen BK510.out 1
          have hfz118_2 := blk_frozen BK510.out 2
          have hfz118_3 := blk_frozen BK510.out 3
          go_wp2_with (first | (go_at_call 13; (with_reducible refine (graftwoodlaw03_awake.calls k2  t548 _ A116.out).mono ?_); rintro e w119 ⟨rfl, hb⟩; have n0_ := Aside0.mk (Kd.R_below (by (with_reducible repeat (first | apply Kd.R_alloc | apply Kd.R_drewN | apply Kd.R_drew)); exact HO_11.out) hb); have n1_ := Aside0.mk (Kd.R_below (by (with_reducible repeat (first | apply Kd.R_alloc | apply Kd.R_drewN | apply Kd.R_drew)); exact HO_12.out) hb); have n2_ := Aside0.mk (Kd.R_below (by (with_reducible repeat (first | apply Kd.R_alloc | apply Kd.R_drewN | apply Kd.R_drew)); exact HO_511003.out) hb); have n3_ := Aside0.mk (Kd.R_below (by (with_reducible repeat (first | apply Kd.R_alloc | apply Kd.R_drewN | apply Kd.R_drew)); exact HO_512003.out) hb); have n4_ := Aside0.mk (blk_below (g := gb510) (o := .cells #[.string t512, .string t513, .string t514, .slice Ao17 t515.length co17] 36 (0, 0)) (by (with_reducible repeat (first | refine blk_drewN ?_ _ | refine blk_drew ?_ | refine blk_alloc ?_ _)); exact BK510.out) hb); have n5_ := Aside0.mk (blk_below (g := gb511) (o := .cells #[.string t518, .string t519, .string t520, .slice Ao22 t521.length co22] 36 (0, 0)) (by (with_reducible repeat (first | refine blk_drewN ?_ _ | refine blk_drew ?_ | refine blk_alloc ?_ _)); exact BK511.out) hb); have n6_ := Aside0.mk (below_step (by repeat (first | (with_reducible first | exact HB.out | apply below_alloc | apply pw_below_drewN | apply below_drew1 | refine below_set ?_ GE510.out | refine below_set ?_ GE511.out) | exact HB.out)) hb); clear HO_11; clear HO_12; clear HO_511003; clear HO_512003; clear BK510; clear BK511; clear HB; have HO_11 := n0_; have HO_12 := n1_; have HO_511003 := n2_; have HO_512003 := n3_; have BK510 := n4_; have BK511 := n5_; have HB := n6_; clear n0_ n1_ n2_ n3_ n4_ n5_ n6_; (try clear hb); (try clear hb2); (try clear hk); (try clear hi)))
          go_ret
          exact ⟨by first | rfl | (simp [errW_none, errW_some] <;> rfl) | (simp [*, errW_none, errW_some] <;> rfl), by repeat (first | (with_reducible first | exact HB.out | apply below_alloc | apply pw_below_drewN | apply below_drew1 | refine below_set ?_ GE510.out | refine below_set ?_ GE511.out) | exact HB.out)⟩
         ·rw [if_neg c115] at H
          have c115b0 : ((t515.length : Int) == 0) = false := beq_eq_false_iff_ne.mpr c115
          have c115b1 : ((t515.length : Int) != 0) = true := bne_iff_ne.mpr c115
          have c115b2 : ¬ (t515 = []) := fun h_ => c115 (by rw [h_]; rfl)
          by_cases c120 : (t521.length : Int) > 0
          ·rw [if_pos c120] at H
           have c120b0 : decide (0 < (t521.length : Int)) = true := decide_eq_true c120
           have c120b1 : decide (0 < t521.length) = true := decide_eq_true (by omega)
           clear c120
           replace H := Option.bind_eq_some_iff.mp H
           obtain ⟨t549, A1210, H⟩ := H
           replace H : (some t549) = some r := H
           have A121 := Aside0.mk A1210
           clear A1210
           obtain rfl := Option.some.inj H
           have hnb122 := NB510_511.out
           have hnc122 := NB511_510.out
           have hcz123_0 : wr.cell? ⟨gb510, 0, none⟩ = some (.string t512) := (blk_cell BK510.out 0).trans rfl
           have hcz123_1 : wr.cell? ⟨gb510, 1, none⟩ = some (.string t513) := (blk_cell BK510.out 1).trans rfl
           have hcz123_2 : wr.cell? ⟨gb510, 2, none⟩ = some (.string t514) := (blk_cell BK510.out 2).trans rfl
           have hcz123_3 : wr.cell? ⟨gb510, 3, none⟩ = some (.slice Ao17 t515.length co17) := (blk_cell BK510.out 3).trans rfl
           have hfz123_0 := blk_frozen BK510.out 0
           have hfz123_1 := blk_frozen BK510.out 1
           have hfz123_2 := blk_frozen BK510.out 2
           have hfz123_3 := blk_frozen BK510.out 3
           have hcz124_0 : wr.cell? ⟨gb511, 0, none⟩ = some (.string t518) := (blk_cell BK511.out 0).trans rfl
           have hcz124_1 : wr.cell? ⟨gb511, 1, none⟩ = some (.string t519) := (blk_cell BK511.out 1).trans rfl
           have hcz124_2 : wr.cell? ⟨gb511, 2, none⟩ = some (.string t520) := (blk_cell BK511.out 2).trans rfl
           have hcz124_3 : wr.cell? ⟨gb511, 3, none⟩ = some (.slice Ao22 t521.length co22) := (blk_cell BK511.out 3).trans rfl
           have hfz124_0 := blk_frozen BK511.out 0
           have hfz124_1 := blk_frozen BK511.out 1
           have hfz124_2 := blk_frozen BK511.out 2
           have hfz124_3 := blk_frozen BK511.out 3
           go_wp2_with (first | (go_at_call 13; (with_reducible refine (graftwoodlaw03_awake.calls k2  t549 _ A121.out).mono ?_); rintro e w125 ⟨rfl, hb⟩; have n0_ := Aside0.mk (Kd.R_below (by (with_reducible repeat (first | apply Kd.R_alloc | apply Kd.R_drewN | apply Kd.R_drew)); exact HO_11.out) hb); have n1_ := Aside0.mk (Kd.R_below (by (with_reducible repeat (first | apply Kd.R_alloc | apply Kd.R_drewN | apply Kd.R_drew)); exact HO_12.out) hb); have n2_ := Aside0.mk (Kd.R_below (by (with_reducible repeat (first | apply Kd.R_alloc | apply Kd.R_drewN | apply Kd.R_drew)); exact HO_511003.out) hb); have n3_ := Aside0.mk (Kd.R_below (by (with_reducible repeat (first | apply Kd.R_alloc | apply Kd.R_drewN | apply Kd.R_drew)); exact HO_512003.out) hb); have n4_ := Aside0.mk (blk_below (g := gb510) (o := .cells #[.string t512, .string t513, .string t514, .slice Ao17 t515.length co17] 36 (0, 0)) (by (with_reducible repeat (first | refine blk_drewN ?_ _ | refine blk_drew ?_ | refine blk_alloc ?_ _)); exact BK510.out) hb); have n5_ := Aside0.mk (blk_below (g := gb511) (o := .cells #[.string t518, .string t519, .string t520, .slice Ao22 t521.length co22] 36 (0, 0)) (by (with_reducible repeat (first | refine blk_drewN ?_ _ | refine blk_drew ?_ | refine blk_alloc ?_ _)); exact BK511.out) hb); have n6_ := Aside0.mk (below_step (by repeat (first | (with_reducible first | exact HB.out | apply below_alloc | apply pw_below_drewN | apply below_drew1 | refine below_set ?_ GE510.out | refine below_set ?_ GE511.out) | exact HB.out)) hb); clear HO_11; clear HO_12; clear HO_511003; clear HO_512003; clear BK510; clear BK511; clear HB; have HO_11 := n0_; have HO_12 := n1_; have HO_511003 := n2_; have HO_512003 := n3_; have BK510 := n4_; have BK511 := n5_; have HB := n6_; clear n0_ n1_ n2_ n3_ n4_ n5_ n6_; (try clear hb); (try clear hb2); (try clear hk); (try clear hi)))
           go_ret
           exact ⟨by first | rfl | (simp [errW_none, errW_some] <;> rfl) | (simp [*, errW_none, errW_some] <;> rfl), by repeat (first | (with_reducible first | exact HB.out | apply below_alloc | apply pw_below_drewN | apply below_drew1 | refine below_set ?_ GE510.out | refine below_set ?_ GE511.out) | exact HB.out)⟩
          ·rw [if_neg c120] at H
           have c120b0 : decide (0 < (t521.length : Int)) = false := decide_eq_false c120
           have c120b1 : decide (0 < t521.length) = false := decide_eq_false (by omega)
           clear c120
           by_cases c126 : t528 = (-1)
           ·rw [if_pos c126] at H
            have c126b0 : (t528 == (-1)) = true := beq_iff_eq.mpr c126
            have c126b1 : (t528 != (-1)) = false := bne_eq_false_iff_eq.mpr c126
            clear c126
            replace H := Option.bind_eq_some_iff.mp H
            obtain ⟨t550, A1270, H⟩ := H
            replace H : (some t550) = some r := H
            have A127 := Aside0.mk A1270
            clear A1270
            obtain rfl := Option.some.inj H
            have hnb128 := NB510_511.out
            have hnc128 := NB511_510.out
            have hcz129_0 : wr.cell? ⟨gb510, 0, none⟩ = some (.string t512) := (blk_cell BK510.out 0).trans rfl
            have hcz129_1 : wr.cell? ⟨gb510, 1, none⟩ = some (.string t513) := (blk_cell BK510.out 1).trans rfl
            have hcz129_2 : wr.cell? ⟨gb510, 2, none⟩ = some (.string t514) := (blk_cell BK510.out 2).trans rfl
            have hcz129_3 : wr.cell? ⟨gb510, 3, none⟩ = some (.slice Ao17 t515.length co17) := (blk_cell BK510.out 3).trans rfl
            have hfz129_0 := blk_frozen BK510.out 0
            have hfz129_1 := blk_frozen BK510.out 1
            have hfz129_2 := blk_frozen BK510.out 2
            have hfz129_3 := blk_frozen BK510.out 3
            have hcz130_0 : wr.cell? ⟨gb511, 0, none⟩ = some (.string t518) := (blk_cell BK511.out 0).trans rfl
            have hcz130_1 : wr.cell? ⟨gb511, 1, none⟩ = some (.string t519) := (blk_cell BK511.out 1).trans rfl
            have hcz130_2 : wr.cell? ⟨gb511, 2, none⟩ = some (.string t520) := (blk_cell BK511.out 2).trans rfl
            have hcz130_3 : wr.cell? ⟨gb511, 3, none⟩ = some (.slice Ao22 t521.length co22) := (blk_cell BK511.out 3).trans rfl
            have hfz130_0 := blk_frozen BK511.out 0
            have hfz130_1 := blk_frozen BK511.out 1
            have hfz130_2 := blk_frozen BK511.out 2
            have hfz130_3 := blk_frozen BK511.out 3
            go_wp2_with (first | (go_at_call 13; (with_reducible refine (graftwoodlaw03_awake.calls k2  t550 _ A127.out).mono ?_); rintro e w131 ⟨rfl, hb⟩; have n0_ := Aside0.mk (Kd.R_below (by (with_reducible repeat (first | apply Kd.R_alloc | apply Kd.R_drewN | apply Kd.R_drew)); exact HO_11.out) hb); have n1_ := Aside0.mk (Kd.R_below (by (with_reducible repeat (first | apply Kd.R_alloc | apply Kd.R_drewN | apply Kd.R_drew)); exact HO_12.out) hb); have n2_ := Aside0.mk (Kd.R_below (by (with_reducible repeat (first | apply Kd.R_alloc | apply Kd.R_drewN | apply Kd.R_drew)); exact HO_511003.out) hb); have n3_ := Aside0.mk (Kd.R_below (by (with_reducible repeat (first | apply Kd.R_alloc | apply Kd.R_drewN | apply Kd.R_drew)); exact HO_512003.out) hb); have n4_ := Aside0.mk (blk_below (g := gb510) (o := .cells #[.string t512, .string t513, .string t514, .slice Ao17 t515.length co17] 36 (0, 0)) (by (with_reducible repeat (first | refine blk_drewN ?_ _ | refine blk_drew ?_ | refine blk_alloc ?_ _)); exact BK510.out) hb); have n5_ := Aside0.mk (blk_below (g := gb511) (o := .cells #[.string t518, .string t519, .string t520, .slice Ao22 t521.length co22] 36 (0, 0)) (by (with_reducible repeat (first | refine blk_drewN ?_ _ | refine blk_drew ?_ | refine blk_alloc ?_ _)); exact BK511.out) hb); have n6_ := Aside0.mk (below_step (by repeat (first | (with_reducible first | exact HB.out | apply below_alloc | apply pw_below_drewN | apply below_drew1 | refine below_set ?_ GE510.out | refine below_set ?_ GE511.out) | exact HB.out)) hb); clear HO_11; clear HO_12; clear HO_511003; clear HO_512003; clear BK510; clear BK511; clear HB; have HO_11 := n0_; have HO_12 := n1_; have HO_511003 := n2_; have HO_512003 := n3_; have BK510 := n4_; have BK511 := n5_; have HB := n6_; clear n0_ n1_ n2_ n3_ n4_ n5_ n6_; (try clear hb); (try clear hb2); (try clear hk); (try clear hi)))
            go_ret
            exact ⟨by first | rfl | (simp [errW_none, errW_some] <;> rfl) | (simp [*, errW_none, errW_some] <;> rfl), by repeat (first | (with_reducible first | exact HB.out | apply below_alloc | apply pw_below_drewN | apply below_drew1 | refine below_set ?_ GE510.out | refine below_set ?_ GE511.out) | exact HB.out)⟩
           ·rw [if_neg c126] at H
            have c126b0 : (t528 == (-1)) = false := beq_eq_false_iff_ne.mpr c126
            have c126b1 : (t528 != (-1)) = true := bne_iff_ne.mpr c126
            exact absurd ((Option.some.inj H).trans hR_) (by decide)
        ·rw [if_neg c114] at H
         have c114b0 : decide (0 < (t515.length : Int)) = false := decide_eq_false c114
         have c114b1 : decide (0 < t515.length) = false := decide_eq_false (by omega)
         clear c114
         by_cases c135 : (t521.length : Int) = 0
         ·rw [if_pos c135] at H
          have c135b0 : ((t521.length : Int) == 0) = true := beq_iff_eq.mpr c135
          have c135b1 : ((t521.length : Int) != 0) = false := bne_eq_false_iff_eq.mpr c135
          clear c135
          by_cases c136 : (t515.length : Int) = 0
          ·rw [if_pos c136] at H
           have c136b0 : ((t515.length : Int) == 0) = true := beq_iff_eq.mpr c136
           have c136b1 : ((t515.length : Int) != 0) = false := bne_eq_false_iff_eq.mpr c136
           clear c136
           replace H := Option.bind_eq_some_iff.mp H
           obtain ⟨t551, A1370, H⟩ := H
           replace H : (some t551) = some r := H
           have A137 := Aside0.mk A1370
           clear A1370
           obtain rfl := Option.some.inj H
           have hnb138 := NB510_511.out
           have hnc138 := NB511_510.out
           have hcz139_0 : wr.cell? ⟨gb510, 0, none⟩ = some (.string t512) := (blk_cell BK510.out 0).trans rfl
           have hcz139_1 : wr.cell? ⟨gb510, 1, none⟩ = some (.string t513) := (blk_cell BK510.out 1).trans rfl
           have hcz139_2 : wr.cell? ⟨gb510, 2, none⟩ = some (.string t514) := (blk_cell BK510.out 2).trans rfl
           have hcz139_3 : wr.cell? ⟨gb510, 3, none⟩ = some (.slice Ao17 t515.length co17) := (blk_cell BK510.out 3).trans rfl
           have hfz139_0 := blk_frozen BK510.out 0
           have hfz139_1 := blk_frozen BK510.out 1
           have hfz139_2 := blk_frozen BK510.out 2
           have hfz139_3 := blk_frozen BK510.out 3
           have hcz140_0 : wr.cell? ⟨gb511, 0, none⟩ = some (.string t518) := (blk_cell BK511.out 0).trans rfl
           have hcz140_1 : wr.cell? ⟨gb511, 1, none⟩ = some (.string t519) := (blk_cell BK511.out 1).trans rfl
           have hcz140_2 : wr.cell? ⟨gb511, 2, none⟩ = some (.string t520) := (blk_cell BK511.out 2).trans rfl
           have hcz140_3 : wr.cell? ⟨gb511, 3, none⟩ = some (.slice Ao22 t521.length co22) := (blk_cell BK511.out 3).trans rfl
           have hfz140_0 := blk_frozen BK511.out 0
           have hfz140_1 := blk_frozen BK511.out 1
           have hfz140_2 := blk_frozen BK511.out 2
           have hfz140_3 := blk_frozen BK511.out 3
           go_wp2_with (first | (go_at_call 13; (with_reducible refine (graftwoodlaw03_awake.calls k2  t551 _ A137.out).mono ?_); rintro e w141 ⟨rfl, hb⟩; have n0_ := Aside0.mk (Kd.R_below (by (with_reducible repeat (first | apply Kd.R_alloc | apply Kd.R_drewN | apply Kd.R_drew)); exact HO_11.out) hb); have n1_ := Aside0.mk (Kd.R_below (by (with_reducible repeat (first | apply Kd.R_alloc | apply Kd.R_drewN | apply Kd.R_drew)); exact HO_12.out) hb); have n2_ := Aside0.mk (Kd.R_below (by (with_reducible repeat (first | apply Kd.R_alloc | apply Kd.R_drewN | apply Kd.R_drew)); exact HO_511003.out) hb); have n3_ := Aside0.mk (Kd.R_below (by (with_reducible repeat (first | apply Kd.R_alloc | apply Kd.R_drewN | apply Kd.R_drew)); exact HO_512003.out) hb); have n4_ := Aside0.mk (blk_below (g := gb510) (o := .cells #[.string t512, .string t513, .string t514, .slice Ao17 t515.length co17] 36 (0, 0)) (by (with_reducible repeat (first | refine blk_drewN ?_ _ | refine blk_drew ?_ | refine blk_alloc ?_ _)); exact BK510.out) hb); have n5_ := Aside0.mk (blk_below (g := gb511) (o := .cells #[.string t518, .string t519, .string t520, .slice Ao22 t521.length co22] 36 (0, 0)) (by (with_reducible repeat (first | refine blk_drewN ?_ _ | refine blk_drew ?_ | refine blk_alloc ?_ _)); exact BK511.out) hb); have n6_ := Aside0.mk (below_step (by repeat (first | (with_reducible first | exact HB.out | apply below_alloc | apply pw_below_drewN | apply below_drew1 | refine below_set ?_ GE510.out | refine below_set ?_ GE511.out) | exact HB.out)) hb); clear HO_11; clear HO_12; clear HO_511003; clear HO_512003; clear BK510; clear BK511; clear HB; have HO_11 := n0_; have HO_12 := n1_; have HO_511003 := n2_; have HO_512003 := n3_; have BK510 := n4_; have BK511 := n5_; have HB := n6_; clear n0_ n1_ n2_ n3_ n4_ n5_ n6_; (try clear hb); (try clear hb2); (try clear hk); (try clear hi)))
           go_ret
           exact ⟨by first | rfl | (simp [errW_none, errW_some] <;> rfl) | (simp [*, errW_none, errW_some] <;> rfl), by repeat (first | (with_reducible first | exact HB.out | apply below_alloc | apply pw_below_drewN | apply below_drew1 | refine below_set ?_ GE510.out | refine below_set ?_ GE511.out) | exact HB.out)⟩
          ·rw [if_neg c136] at H
           have c136b0 : ((t515.length : Int) == 0) = false := beq_eq_false_iff_ne.mpr c136
           have c136b1 : ((t515.length : Int) != 0) = true := bne_iff_ne.mpr c136
           have c136b2 : ¬ (t515 = []) := fun h_ => c136 (by rw [h_]; rfl)
           by_cases c142 : (t521.length : Int) > 0
           ·rw [if_pos c142] at H
            have c142b0 : decide (0 < (t521.length : Int)) = true := decide_eq_true c142
            have c142b1 : decide (0 < t521.length) = true := decide_eq_true (by omega)
            clear c142
            replace H := Option.bind_eq_some_iff.mp H
            obtain ⟨t552, A1430, H⟩ := H
            replace H : (some t552) = some r := H
            have A143 := Aside0.mk A1430
            clear A1430
            obtain rfl := Option.some.inj H
            have hnb144 := NB510_511.out
            have hnc144 := NB511_510.out
            have hcz145_0 : wr.cell? ⟨gb510, 0, none⟩ = some (.string t512) := (blk_cell BK510.out 0).trans rfl
            have hcz145_1 : wr.cell? ⟨gb510, 1, none⟩ = some (.string t513) := (blk_cell BK510.out 1).trans rfl
            have hcz145_2 : wr.cell? ⟨gb510, 2, none⟩ = some (.string t514) := (blk_cell BK510.out 2).trans rfl
            have hcz145_3 : wr.cell? ⟨gb510, 3, none⟩ = some (.slice Ao17 t515.length co17) := (blk_cell BK510.out 3).trans rfl
            have hfz145_0 := blk_frozen BK510.out 0
            have hfz145_1 := blk_frozen BK510.out 1
            have hfz145_2 := blk_frozen BK510.out 2
            have hfz145_3 := blk_frozen BK510.out 3
            have hcz146_0 : wr.cell? ⟨gb511, 0, none⟩ = some (.string t518) := (blk_cell BK511.out 0).trans rfl
            have hcz146_1 : wr.cell? ⟨gb511, 1, none⟩ = some (.string t519) := (blk_cell BK511.out 1).trans rfl
            have hcz146_2 : wr.cell? ⟨gb511, 2, none⟩ = some (.string t520) := (blk_cell BK511.out 2).trans rfl
            have hcz146_3 : wr.cell? ⟨gb511, 3, none⟩ = some (.slice Ao22 t521.length co22) := (blk_cell BK511.out 3).trans rfl
            have hfz146_0 := blk_frozen BK511.out 0
            have hfz146_1 := blk_frozen BK511.out 1
            have hfz146_2 := blk_frozen BK511.out 2
            have hfz146_3 := blk_frozen BK511.out 3
            go_wp2_with (first | (go_at_call 13; (with_reducible refine (graftwoodlaw03_awake.calls k2  t552 _ A143.out).mono ?_); rintro e w147 ⟨rfl, hb⟩; have n0_ := Aside0.mk (Kd.R_below (by (with_reducible repeat (first | apply Kd.R_alloc | apply Kd.R_drewN | apply Kd.R_drew)); exact HO_11.out) hb); have n1_ := Aside0.mk (Kd.R_below (by (with_reducible repeat (first | apply Kd.R_alloc | apply Kd.R_drewN | apply Kd.R_drew)); exact HO_12.out) hb); have n2_ := Aside0.mk (Kd.R_below (by (with_reducible repeat (first | apply Kd.R_alloc | apply Kd.R_drewN | apply Kd.R_drew)); exact HO_511003.out) hb); have n3_ := Aside0.mk (Kd.R_below (by (with_reducible repeat (first | apply Kd.R_alloc | apply Kd.R_drewN | apply Kd.R_drew)); exact HO_512003.out) hb); have n4_ := Aside0.mk (blk_below (g := gb510) (o := .cells #[.string t512, .string t513, .string t514, .slice Ao17 t515.length co17] 36 (0, 0)) (by (with_reducible repeat (first | refine blk_drewN ?_ _ | refine blk_drew ?_ | refine blk_alloc ?_ _)); exact BK510.out) hb); have n5_ := Aside0.mk (blk_below (g := gb511) (o := .cells #[.string t518, .string t519, .string t520, .slice Ao22 t521.length co22] 36 (0, 0)) (by (with_reducible repeat (first | refine blk_drewN ?_ _ | refine blk_drew ?_ | refine blk_alloc ?_ _)); exact BK511.out) hb); have n6_ := Aside0.mk (below_step (by repeat (first | (with_reducible first | exact HB.out | apply below_alloc | apply pw_below_drewN | apply below_drew1 | refine below_set ?_ GE510.out | refine below_set ?_ GE511.out) | exact HB.out)) hb); clear HO_11; clear HO_12; clear HO_511003; clear HO_512003; clear BK510; clear BK511; clear HB; have HO_11 := n0_; have HO_12 := n1_; have HO_511003 := n2_; have HO_512003 := n3_; have BK510 := n4_; have BK511 := n5_; have HB := n6_; clear n0_ n1_ n2_ n3_ n4_ n5_ n6_; (try clear hb); (try clear hb2); (try clear hk); (try clear hi)))
            go_ret
            exact ⟨by first | rfl | (simp [errW_none, errW_some] <;> rfl) | (simp [*, errW_none, errW_some] <;> rfl), by repeat (first | (with_reducible first | exact HB.out | apply below_alloc | apply pw_below_drewN | apply below_drew1 | refine below_set ?_ GE510.out | refine below_set ?_ GE511.out) | exact HB.out)⟩
           ·rw [if_neg c142] at H
            have c142b0 : decide (0 < (t521.length : Int)) = false := decide_eq_false c142
            have c142b1 : decide (0 < t521.length) = false := decide_eq_false (by omega)
            clear c142
            by_cases c148 : t528 = (-1)
            ·rw [if_pos c148] at H
             have c148b0 : (t528 == (-1)) = true := beq_iff_eq.mpr c148
             have c148b1 : (t528 != (-1)) = false := bne_eq_false_iff_eq.mpr c148
             clear c148
             replace H := Option.bind_eq_some_iff.mp H
             obtain ⟨t553, A1490, H⟩ := H
             replace H : (some t553) = some r := H
             have A149 := Aside0.mk A1490
             clear A1490
             obtain rfl := Option.some.inj H
             have hnb150 := NB510_511.out
             have hnc150 := NB511_510.out
             have hcz151_0 : wr.cell? ⟨gb510, 0, none⟩ = some (.string t512) := (blk_cell BK510.out 0).trans rfl
             have hcz151_1 : wr.cell? ⟨gb510, 1, none⟩ = some (.string t513) := (blk_cell BK510.out 1).trans rfl
             have hcz151_2 : wr.cell? ⟨gb510, 2, none⟩ = some (.string t514) := (blk_cell BK510.out 2).trans rfl
             have hcz151_3 : wr.cell? ⟨gb510, 3, none⟩ = some (.slice Ao17 t515.length co17) := (blk_cell BK510.out 3).trans rfl
             have hfz151_0 := blk_frozen BK510.out 0
             have hfz151_1 := blk_frozen BK510.out 1
             have hfz151_2 := blk_frozen BK510.out 2
             have hfz151_3 := blk_frozen BK510.out 3
             have hcz152_0 : wr.cell? ⟨gb511, 0, none⟩ = some (.string t518) := (blk_cell BK511.out 0).trans rfl
             have hcz152_1 : wr.cell? ⟨gb511, 1, none⟩ = some (.string t519) := (blk_cell BK511.out 1).trans rfl
             have hcz152_2 : wr.cell? ⟨gb511, 2, none⟩ = some (.string t520) := (blk_cell BK511.out 2).trans rfl
             have hcz152_3 : wr.cell? ⟨gb511, 3, none⟩ = some (.slice Ao22 t521.length co22) := (blk_cell BK511.out 3).trans rfl
             have hfz152_0 := blk_frozen BK511.out 0
             have hfz152_1 := blk_frozen BK511.out 1
             have hfz152_2 := blk_frozen BK511.out 2
             have hfz152_3 := blk_frozen BK511.out 3
             go_wp2_with (first | (go_at_call 13; (with_reducible refine (graftwoodlaw03_awake.calls k2  t553 _ A149.out).mono ?_); rintro e w153 ⟨rfl, hb⟩; have n0_ := Aside0.mk (Kd.R_below (by (with_reducible repeat (first | apply Kd.R_alloc | apply Kd.R_drewN | apply Kd.R_drew)); exact HO_11.out) hb); have n1_ := Aside0.mk (Kd.R_below (by (with_reducible repeat (first | apply Kd.R_alloc | apply Kd.R_drewN | apply Kd.R_drew)); exact HO_12.out) hb); have n2_ := Aside0.mk (Kd.R_below (by (with_reducible repeat (first | apply Kd.R_alloc | apply Kd.R_drewN | apply Kd.R_drew)); exact HO_511003.out) hb); have n3_ := Aside0.mk (Kd.R_below (by (with_reducible repeat (first | apply Kd.R_alloc | apply Kd.R_drewN | apply Kd.R_drew)); exact HO_512003.out) hb); have n4_ := Aside0.mk (blk_below (g := gb510) (o := .cells #[.string t512, .string t513, .string t514, .slice Ao17 t515.length co17] 36 (0, 0)) (by (with_reducible repeat (first | refine blk_drewN ?_ _ | refine blk_drew ?_ | refine blk_alloc ?_ _)); exact BK510.out) hb); have n5_ := Aside0.mk (blk_below (g := gb511) (o := .cells #[.string t518, .string t519, .string t520, .slice Ao22 t521.length co22] 36 (0, 0)) (by (with_reducible repeat (first | refine blk_drewN ?_ _ | refine blk_drew ?_ | refine blk_alloc ?_ _)); exact BK511.out) hb); have n6_ := Aside0.mk (below_step (by repeat (first | (with_reducible first | exact HB.out | apply below_alloc | apply pw_below_drewN | apply below_drew1 | refine below_set ?_ GE510.out | refine below_set ?_ GE511.out) | exact HB.out)) hb); clear HO_11; clear HO_12; clear HO_511003; clear HO_512003; clear BK510; clear BK511; clear HB; have HO_11 := n0_; have HO_12 := n1_; have HO_511003 := n2_; have HO_512003 := n3_; have BK510 := n4_; have BK511 := n5_; have HB := n6_; clear n0_ n1_ n2_ n3_ n4_ n5_ n6_; (try clear hb); (try clear hb2); (try clear hk); (try clear hi)))
             go_ret
             exact ⟨by first | rfl | (simp [errW_none, errW_some] <;> rfl) | (simp [*, errW_none, errW_some] <;> rfl), by repeat (first | (with_reducible first | exact HB.out | apply below_alloc | apply pw_below_drewN | apply below_drew1 | refine below_set ?_ GE510.out | refine below_set ?_ GE511.out) | exact HB.out)⟩
            ·rw [if_neg c148] at H
             have c148b0 : (t528 == (-1)) = false := beq_eq_false_iff_ne.mpr c148
             have c148b1 : (t528 != (-1)) = true := bne_iff_ne.mpr c148
             exact absurd ((Option.some.inj H).trans hR_) (by decide)
         ·rw [if_neg c135] at H
          have c135b0 : ((t521.length : Int) == 0) = false := beq_eq_false_iff_ne.mpr c135
          have c135b1 : ((t521.length : Int) != 0) = true := bne_iff_ne.mpr c135
          have c135b2 : ¬ (t521 = []) := fun h_ => c135 (by rw [h_]; rfl)
          by_cases c157 : t528 = 1
          ·rw [if_pos c157] at H
           have c157b0 : (t528 == 1) = true := beq_iff_eq.mpr c157
           have c157b1 : (t528 != 1) = false := bne_eq_false_iff_eq.mpr c157
           clear c157
           by_cases c158 : (t515.length : Int) = 0
           ·rw [if_pos c158] at H
            have c158b0 : ((t515.length : Int) == 0) = true := beq_iff_eq.mpr c158
            have c158b1 : ((t515.length : Int) != 0) = false := bne_eq_false_iff_eq.mpr c158
            clear c158
            replace H := Option.bind_eq_some_iff.mp H
            obtain ⟨t554, A1590, H⟩ := H
            replace H : (some t554) = some r := H
            have A159 := Aside0.mk A1590
            clear A1590
            obtain rfl := Option.some.inj H
            have hnb160 := NB510_511.out
            have hnc160 := NB511_510.out
            have hcz161_0 : wr.cell? ⟨gb510, 0, none⟩ = some (.string t512) := (blk_cell BK510.out 0).trans rfl
            have hcz161_1 : wr.cell? ⟨gb510, 1, none⟩ = some (.string t513) := (blk_cell BK510.out 1).trans rfl
            have hcz161_2 : wr.cell? ⟨gb510, 2, none⟩ = some (.string t514) := (blk_cell BK510.out 2).trans rfl
            have hcz161_3 : wr.cell? ⟨gb510, 3, none⟩ = some (.slice Ao17 t515.length co17) := (blk_cell BK510.out 3).trans rfl
            have hfz161_0 := blk_frozen BK510.out 0
            have hfz161_1 := blk_frozen BK510.out 1
            have hfz161_2 := blk_frozen BK510.out 2
            have hfz161_3 := blk_frozen BK510.out 3
            have hcz162_0 : wr.cell? ⟨gb511, 0, none⟩ = some (.string t518) := (blk_cell BK511.out 0).trans rfl
            have hcz162_1 : wr.cell? ⟨gb511, 1, none⟩ = some (.string t519) := (blk_cell BK511.out 1).trans rfl
            have hcz162_2 : wr.cell? ⟨gb511, 2, none⟩ = some (.string t520) := (blk_cell BK511.out 2).trans rfl
            have hcz162_3 : wr.cell? ⟨gb511, 3, none⟩ = some (.slice Ao22 t521.length co22) := (blk_cell BK511.out 3).trans rfl
            have hfz162_0 := blk_frozen BK511.out 0
            have hfz162_1 := blk_frozen BK511.out 1
            have hfz162_2 := blk_frozen BK511.out 2
            have hfz162_3 := blk_frozen BK511.out 3
            go_wp2_with (first | (go_at_call 13; (with_reducible refine (graftwoodlaw03_awake.calls k2  t554 _ A159.out).mono ?_); rintro e w163 ⟨rfl, hb⟩; have n0_ := Aside0.mk (Kd.R_below (by (with_reducible repeat (first | apply Kd.R_alloc | apply Kd.R_drewN | apply Kd.R_drew)); exact HO_11.out) hb); have n1_ := Aside0.mk (Kd.R_below (by (with_reducible repeat (first | apply Kd.R_alloc | apply Kd.R_drewN | apply Kd.R_drew)); exact HO_12.out) hb); have n2_ := Aside0.mk (Kd.R_below (by (with_reducible repeat (first | apply Kd.R_alloc | apply Kd.R_drewN | apply Kd.R_drew)); exact HO_511003.out) hb); have n3_ := Aside0.mk (Kd.R_below (by (with_reducible repeat (first | apply Kd.R_alloc | apply Kd.R_drewN | apply Kd.R_drew)); exact HO_512003.out) hb); have n4_ := Aside0.mk (blk_below (g := gb510) (o := .cells #[.string t512, .string t513, .string t514, .slice Ao17 t515.length co17] 36 (0, 0)) (by (with_reducible repeat (first | refine blk_drewN ?_ _ | refine blk_drew ?_ | refine blk_alloc ?_ _)); exact BK510.out) hb); have n5_ := Aside0.mk (blk_below (g := gb511) (o := .cells #[.string t518, .string t519, .string t520, .slice Ao22 t521.length co22] 36 (0, 0)) (by (with_reducible repeat (first | refine blk_drewN ?_ _ | refine blk_drew ?_ | refine blk_alloc ?_ _)); exact BK511.out) hb); have n6_ := Aside0.mk (below_step (by repeat (first | (with_reducible first | exact HB.out | apply below_alloc | apply pw_below_drewN | apply below_drew1 | refine below_set ?_ GE510.out | refine below_set ?_ GE511.out) | exact HB.out)) hb); clear HO_11; clear HO_12; clear HO_511003; clear HO_512003; clear BK510; clear BK511; clear HB; have HO_11 := n0_; have HO_12 := n1_; have HO_511003 := n2_; have HO_512003 := n3_; have BK510 := n4_; have BK511 := n5_; have HB := n6_; clear n0_ n1_ n2_ n3_ n4_ n5_ n6_; (try clear hb); (try clear hb2); (try clear hk); (try clear hi)))
            go_ret
            exact ⟨by first | rfl | (simp [errW_none, errW_some] <;> rfl) | (simp [*, errW_none, errW_some] <;> rfl), by repeat (first | (with_reducible first | exact HB.out | apply below_alloc | apply pw_below_drewN | apply below_drew1 | refine below_set ?_ GE510.out | refine below_set ?_ GE511.out) | exact HB.out)⟩
           ·rw [if_neg c158] at H
            have c158b0 : ((t515.length : Int) == 0) = false := beq_eq_false_iff_ne.mpr c158
            have c158b1 : ((t515.length : Int) != 0) = true := bne_iff_ne.mpr c158
            have c158b2 : ¬ (t515 = []) := fun h_ => c158 (by rw [h_]; rfl)
            by_cases c164 : (t521.length : Int) > 0
            ·rw [if_pos c164] at H
             have c164b0 : decide (0 < (t521.length : Int)) = true := decide_eq_true c164
             have c164b1 : decide (0 < t521.length) = true := decide_eq_true (by omega)
             clear c164
             replace H := Option.bind_eq_some_iff.mp H
             obtain ⟨t555, A1650, H⟩ := H
             replace H : (some t555) = some r := H
             have A165 := Aside0.mk A1650
             clear A1650
             obtain rfl := Option.some.inj H
             have hnb166 := NB510_511.out
             have hnc166 := NB511_510.out
             have hcz167_0 : wr.cell? ⟨gb510, 0, none⟩ = some (.string t512) := (blk_cell BK510.out 0).trans rfl
             have hcz167_1 : wr.cell? ⟨gb510, 1, none⟩ = some (.string t513) := (blk_cell BK510.out 1).trans rfl
             have hcz167_2 : wr.cell? ⟨gb510, 2, none⟩ = some (.string t514) := (blk_cell BK510.out 2).trans rfl
             have hcz167_3 : wr.cell? ⟨gb510, 3, none⟩ = some (.slice Ao17 t515.length co17) := (blk_cell BK510.out 3).trans rfl
             have hfz167_0 := blk_frozen BK510.out 0
             have hfz167_1 := blk_frozen BK510.out 1
             have hfz167_2 := blk_frozen BK510.out 2
             have hfz167_3 := blk_frozen BK510.out 3
             have hcz168_0 : wr.cell? ⟨gb511, 0, none⟩ = some (.string t518) := (blk_cell BK511.out 0).trans rfl
             have hcz168_1 : wr.cell? ⟨gb511, 1, none⟩ = some (.string t519) := (blk_cell BK511.out 1).trans rfl
             have hcz168_2 : wr.cell? ⟨gb511, 2, none⟩ = some (.string t520) := (blk_cell BK511.out 2).trans rfl
             have hcz168_3 : wr.cell? ⟨gb511, 3, none⟩ = some (.slice Ao22 t521.length co22) := (blk_cell BK511.out 3).trans rfl
             have hfz168_0 := blk_frozen BK511.out 0
             have hfz168_1 := blk_frozen BK511.out 1
             have hfz168_2 := blk_frozen BK511.out 2
             have hfz168_3 := blk_frozen BK511.out 3
             go_wp2_with (first | (go_at_call 13; (with_reducible refine (graftwoodlaw03_awake.calls k2  t555 _ A165.out).mono ?_); rintro e w169 ⟨rfl, hb⟩; have n0_ := Aside0.mk (Kd.R_below (by (with_reducible repeat (first | apply Kd.R_alloc | apply Kd.R_drewN | apply Kd.R_drew)); exact HO_11.out) hb); have n1_ := Aside0.mk (Kd.R_below (by (with_reducible repeat (first | apply Kd.R_alloc | apply Kd.R_drewN | apply Kd.R_drew)); exact HO_12.out) hb); have n2_ := Aside0.mk (Kd.R_below (by (with_reducible repeat (first | apply Kd.R_alloc | apply Kd.R_drewN | apply Kd.R_drew)); exact HO_511003.out) hb); have n3_ := Aside0.mk (Kd.R_below (by (with_reducible repeat (first | apply Kd.R_alloc | apply Kd.R_drewN | apply Kd.R_drew)); exact HO_512003.out) hb); have n4_ := Aside0.mk (blk_below (g := gb510) (o := .cells #[.string t512, .string t513, .string t514, .slice Ao17 t515.length co17] 36 (0, 0)) (by (with_reducible repeat (first | refine blk_drewN ?_ _ | refine blk_drew ?_ | refine blk_alloc ?_ _)); exact BK510.out) hb); have n5_ := Aside0.mk (blk_below (g := gb511) (o := .cells #[.string t518, .string t519, .string t520, .slice Ao22 t521.length co22] 36 (0, 0)) (by (with_reducible repeat (first | refine blk_drewN ?_ _ | refine blk_drew ?_ | refine blk_alloc ?_ _)); exact BK511.out) hb); have n6_ := Aside0.mk (below_step (by repeat (first | (with_reducible first | exact HB.out | apply below_alloc | apply pw_below_drewN | apply below_drew1 | refine below_set ?_ GE510.out | refine below_set ?_ GE511.out) | exact HB.out)) hb); clear HO_11; clear HO_12; clear HO_511003; clear HO_512003; clear BK510; clear BK511; clear HB; have HO_11 := n0_; have HO_12 := n1_; have HO_511003 := n2_; have HO_512003 := n3_; have BK510 := n4_; have BK511 := n5_; have HB := n6_; clear n0_ n1_ n2_ n3_ n4_ n5_ n6_; (try clear hb); (try clear hb2); (try clear hk); (try clear hi)))
             go_ret
             exact ⟨by first | rfl | (simp [errW_none, errW_some] <;> rfl) | (simp [*, errW_none, errW_some] <;> rfl), by repeat (first | (with_reducible first | exact HB.out | apply below_alloc | apply pw_below_drewN | apply below_drew1 | refine below_set ?_ GE510.out | refine below_set ?_ GE511.out) | exact HB.out)⟩
            ·rw [if_neg c164] at H
             have c164b0 : decide (0 < (t521.length : Int)) = false := decide_eq_false c164
             have c164b1 : decide (0 < t521.length) = false := decide_eq_false (by omega)
             clear c164
             by_cases c170 : t528 = (-1)
             ·rw [if_pos c170] at H
              have c170b0 : (t528 == (-1)) = true := beq_iff_eq.mpr c170
              have c170b1 : (t528 != (-1)) = false := bne_eq_false_iff_eq.mpr c170
              clear c170
              replace H := Option.bind_eq_some_iff.mp H
              obtain ⟨t556, A1710, H⟩ := H
              replace H : (some t556) = some r := H
              have A171 := Aside0.mk A1710
              clear A1710
              obtain rfl := Option.some.inj H
              have hnb172 := NB510_511.out
              have hnc172 := NB511_510.out
              have hcz173_0 : wr.cell? ⟨gb510, 0, none⟩ = some (.string t512) := (blk_cell BK510.out 0).trans rfl
              have hcz173_1 : wr.cell? ⟨gb510, 1, none⟩ = some (.string t513) := (blk_cell BK510.out 1).trans rfl
              have hcz173_2 : wr.cell? ⟨gb510, 2, none⟩ = some (.string t514) := (blk_cell BK510.out 2).trans rfl
              have hcz173_3 : wr.cell? ⟨gb510, 3, none⟩ = some (.slice Ao17 t515.length co17) := (blk_cell BK510.out 3).trans rfl
              have hfz173_0 := blk_frozen BK510.out 0
              have hfz173_1 := blk_frozen BK510.out 1
              have hfz173_2 := blk_frozen BK510.out 2
              have hfz173_3 := blk_frozen BK510.out 3
              have hcz174_0 : wr.cell? ⟨gb511, 0, none⟩ = some (.string t518) := (blk_cell BK511.out 0).trans rfl
              have hcz174_1 : wr.cell? ⟨gb511, 1, none⟩ = some (.string t519) := (blk_cell BK511.out 1).trans rfl
              have hcz174_2 : wr.cell? ⟨gb511, 2, none⟩ = some (.string t520) := (blk_cell BK511.out 2).trans rfl
              have hcz174_3 : wr.cell? ⟨gb511, 3, none⟩ = some (.slice Ao22 t521.length co22) := (blk_cell BK511.out 3).trans rfl
              have hfz174_0 := blk_frozen BK511.out 0
              have hfz174_1 := blk_frozen BK511.out 1
              have hfz174_2 := blk_frozen BK511.out 2
              have hfz174_3 := blk_frozen BK511.out 3
              go_wp2_with (first | (go_at_call 13; (with_reducible refine (graftwoodlaw03_awake.calls k2  t556 _ A171.out).mono ?_); rintro e w175 ⟨rfl, hb⟩; have n0_ := Aside0.mk (Kd.R_below (by (with_reducible repeat (first | apply Kd.R_alloc | apply Kd.R_drewN | apply Kd.R_drew)); exact HO_11.out) hb); have n1_ := Aside0.mk (Kd.R_below (by (with_reducible repeat (first | apply Kd.R_alloc | apply Kd.R_drewN | apply Kd.R_drew)); exact HO_12.out) hb); have n2_ := Aside0.mk (Kd.R_below (by (with_reducible repeat (first | apply Kd.R_alloc | apply Kd.R_drewN | apply Kd.R_drew)); exact HO_511003.out) hb); have n3_ := Aside0.mk (Kd.R_below (by (with_reducible repeat (first | apply Kd.R_alloc | apply Kd.R_drewN | apply Kd.R_drew)); exact HO_512003.out) hb); have n4_ := Aside0.mk (blk_below (g := gb510) (o := .cells #[.string t512, .string t513, .string t514, .slice Ao17 t515.length co17] 36 (0, 0)) (by (with_reducible repeat (first | refine blk_drewN ?_ _ | refine blk_drew ?_ | refine blk_alloc ?_ _)); exact BK510.out) hb); have n5_ := Aside0.mk (blk_below (g := gb511) (o := .cells #[.string t518, .string t519, .string t520, .slice Ao22 t521.length co22] 36 (0, 0)) (by (with_reducible repeat (first | refine blk_drewN ?_ _ | refine blk_drew ?_ | refine blk_alloc ?_ _)); exact BK511.out) hb); have n6_ := Aside0.mk (below_step (by repeat (first | (with_reducible first | exact HB.out | apply below_alloc | apply pw_below_drewN | apply below_drew1 | refine below_set ?_ GE510.out | refine below_set ?_ GE511.out) | exact HB.out)) hb); clear HO_11; clear HO_12; clear HO_511003; clear HO_512003; clear BK510; clear BK511; clear HB; have HO_11 := n0_; have HO_12 := n1_; have HO_511003 := n2_; have HO_512003 := n3_; have BK510 := n4_; have BK511 := n5_; have HB := n6_; clear n0_ n1_ n2_ n3_ n4_ n5_ n6_; (try clear hb); (try clear hb2); (try clear hk); (try clear hi)))
              go_ret
              exact ⟨by first | rfl | (simp [errW_none, errW_some] <;> rfl) | (simp [*, errW_none, errW_some] <;> rfl), by repeat (first | (with_reducible first | exact HB.out | apply below_alloc | apply pw_below_drewN | apply below_drew1 | refine below_set ?_ GE510.out | refine below_set ?_ GE511.out) | exact HB.out)⟩
             ·rw [if_neg c170] at H
              have c170b0 : (t528 == (-1)) = false := beq_eq_false_iff_ne.mpr c170
              have c170b1 : (t528 != (-1)) = true := bne_iff_ne.mpr c170
              exact absurd ((Option.some.inj H).trans hR_) (by decide)
          ·rw [if_neg c157] at H
           have c157b0 : (t528 == 1) = false := beq_eq_false_iff_ne.mpr c157
           have c157b1 : (t528 != 1) = true := bne_iff_ne.mpr c157
           exact absurd ((Option.some.inj H).trans hR_) (by decide)
       ·rw [if_neg c113] at H
        have c113b0 : (t529 == 0) = false := beq_eq_false_iff_ne.mpr c113
        have c113b1 : (t529 != 0) = true := bne_iff_ne.mpr c113
        exact absurd ((Option.some.inj H).trans hR_) (by decide)
end Go.Proofs.YtjadpeahoaogcaaDoor.P
