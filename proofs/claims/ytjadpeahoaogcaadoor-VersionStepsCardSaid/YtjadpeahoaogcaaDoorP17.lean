-- Written by this project's own program (wip/tools/hp.py), driving the kit's print; hand texts among it. Not trusted: Lean checks it.
import Derived.Test.YtjadpeahoaogcaaDoorThin
import Derived.Test.YtjadpeahoaogcaaDoorSep
import Derived.Test.YtjadpeahoaogcaaDoorP0
import Derived.Test.YtjadpeahoaogcaaDoorP2
import Derived.Test.YtjadpeahoaogcaaDoorP14
import Derived.Test.YtjadpeahoaogcaaDoorP15
import Derived.Test.YtjadpeahoaogcaaDoorP16
namespace Go.Proofs.YtjadpeahoaogcaaDoor.P
open Go.RowKit Go.Proofs.YtjadpeahoaogcaaDoorW.PrintWords Go.Proofs.YtjadpeahoaogcaaDoorW.PrintLast Go.Proofs.YtjadpeahoaogcaaDoorW.PrintMore
attribute [local go_sem] max2_int min2_int max_two min_two max_three min_three max_four min_four   -- for this text's walks alone
set_option linter.unusedVariables false
set_option linter.unusedSimpArgs false

-- half the indentation
/-! ### graftwoodlaw03_VersionSteps: function 8 -/
theorem evq_ {a : Act} {n : Nat} {v : Value} (h : a.tmps[n]? = some v) : a.eval (.tmp n) = v := by simp [Act.eval, Array.getD_eq_getD_getElem?, h]
theorem xo_ {x : Bool} {p : Prop} (h : x = false) (h0 : x = true) : p := absurd (h.symm.trans h0) (by decide)
mutual
def IVS.j0 : Nat → Int → ByteArray → ByteArray → Bool → ByteArray → ByteArray → ByteArray → List ByteArray → ByteArray → ByteArray → ByteArray → List ByteArray → Option (Bool)
 | 0, _, _, _, _, _, _, _, _, _, _, _, _ => none
 | k + 1, x2, x8, x10, x56, cl, cm, cg, ch, dg, dh, di, cV => if x56 = true then ((graftwoodlaw03_awake.f k).bind fun eL => (some eL)) else (if (ch.length : Int) = 0 then (IVS.j1 k x2 x8 x10 1 cl cm cg ch dg dh di cV) else (IVS.j1 k x2 x8 x10 (-1) cl cm cg ch dg dh di cV))
def IVS.j1 : Nat → Int → ByteArray → ByteArray → Int → ByteArray → ByteArray → ByteArray → List ByteArray → ByteArray → ByteArray → ByteArray → List ByteArray → Option (Bool)
 | 0, _, _, _, _, _, _, _, _, _, _, _, _ => none
 | k + 1, x2, x8, x10, x12, cl, cm, cg, ch, dg, dh, di, cV => (version_Cmp.f k x8 x10).bind fun bt246 => (if 1 + cg.size ≤ 9223372036854775807 then ((version_Join.f k cl cm ((⟨#[49]⟩ : ByteArray) ++ cg) cV).bind fun bt249 => ((version_Cmp.f k x8 bt249.1).bind fun bt251 => (if cg.toList = ([48] : List UInt8) then ((version_Join.f k cl cm (⟨#[55]⟩ : ByteArray) cV).bind fun bt253 => ((version_Cmp.f k x8 bt253.1).bind fun bt255 => (IVS.j2 k x2 x12 bt246.1 bt246.2 bt253.2 bt255.1 bt255.2 cl cm cg ch))) else (IVS.j2 k x2 x12 bt246.1 bt246.2 bt249.2 bt251.1 bt251.2 cl cm cg ch)))) else (none))
def IVS.j2 : Nat → Int → Int → Int → Int → Int → Int → Int → ByteArray → ByteArray → ByteArray → List ByteArray → Option (Bool)
 | 0, _, _, _, _, _, _, _, _, _, _, _ => none
 | k + 1, x2, x12, x13, x14, x17, x18, x19, cl, cm, cg, ch => (some (([] : List ByteArray) : List ByteArray)).bind fun cW => (if cW.length + ch.length < 8796093022208 then ((some (cW ++ ch : List ByteArray)).bind fun cA => ((some (([strOfNums (([(49 + (Int.tmod x2 9)) % 256] : List Int))] : List ByteArray) : List ByteArray)).bind fun cp => (if cA.length + cp.length < 8796093022208 then ((some (([] : List ByteArray) : List ByteArray)).bind fun cd => (if cd.length + ch.length < 8796093022208 then ((some (cd ++ ch : List ByteArray)).bind fun cb => ((some (([strOfNums (([(97 + (Int.tmod x2 26)) % 256] : List Int))] : List ByteArray) : List ByteArray)).bind fun b1 => (if cb.length + b1.length < 8796093022208 then ((version_Join.f k cl cm cg (cA ++ cp)).bind fun bt289 => ((version_Join.f k cl cm cg (cb ++ b1)).bind fun bt291 => ((version_Cmp.f k bt289.1 bt291.1).bind fun bt293 => (if x13 = x12 then (if x14 = 0 then (if x17 = 0 then (if x18 = (-1) then (if x19 = 0 then (if bt289.2 = 0 then (if bt291.2 = 0 then (if bt293.1 = (-1) then (if bt293.2 = 0 then ((graftwoodlaw03_awake.f k).bind fun cf => (some cf)) else (some false)) else (some false)) else (some false)) else (some false)) else (some false)) else (some false)) else (some false)) else (some false)) else (some false))))) else (none)))) else (none))) else (none)))) else (none))
end
def graftwoodlaw03_VersionSteps.f (k : Nat) (a0_0 : ByteArray) (a0_1 : ByteArray) (a0_2 : ByteArray) (l0_3 : List ByteArray) (a1 : ByteArray) (a2 : Int) : Option (Bool) := (graftwoodlaw03_Few.f k a0_0 a0_1 a0_2 l0_3).bind fun bt221 => ((graftwoodlaw01_Few.f a1).bind fun cS => ((some (([] : List ByteArray) : List ByteArray)).bind fun cI => (if cI.length + bt221.2.2.2.length < 8796093022208 then ((some (cI ++ bt221.2.2.2 : List ByteArray)).bind fun cx => ((some (([cS] : List ByteArray) : List ByteArray)).bind fun cn => (if cx.length + cn.length < 8796093022208 then ((some (cx ++ cn : List ByteArray)).bind fun ap => ((version_Join.f k bt221.1 bt221.2.1 bt221.2.2.1 bt221.2.2.2).bind fun bt241 => ((version_Join.f k bt221.1 bt221.2.1 bt221.2.2.1 ap).bind fun bt243 => (if bt241.2 = 0 then (IVS.j0 k a2 bt241.1 bt243.1 (bt243.2 != 0) bt221.1 bt221.2.1 bt221.2.2.1 bt221.2.2.2 bt221.1 bt221.2.1 bt221.2.2.1 ap) else (IVS.j0 k a2 bt241.1 bt243.1 true bt221.1 bt221.2.1 bt221.2.2.1 bt221.2.2.2 bt221.1 bt221.2.1 bt221.2.2.1 ap))))) else (none)))) else (none))))
theorem IVS.mono_l : ∀ k, (∀ y0 y1 y2 y3 y4 y5 y6 y7 y8 y9 y10 y11, LeO (IVS.j0 k y0 y1 y2 y3 y4 y5 y6 y7 y8 y9 y10 y11) (IVS.j0 (k + 1) y0 y1 y2 y3 y4 y5 y6 y7 y8 y9 y10 y11)) ∧ (∀ y0 y1 y2 y3 y4 y5 y6 y7 y8 y9 y10 y11, LeO (IVS.j1 k y0 y1 y2 y3 y4 y5 y6 y7 y8 y9 y10 y11) (IVS.j1 (k + 1) y0 y1 y2 y3 y4 y5 y6 y7 y8 y9 y10 y11)) ∧ (∀ y0 y1 y2 y3 y4 y5 y6 y7 y8 y9 y10, LeO (IVS.j2 k y0 y1 y2 y3 y4 y5 y6 y7 y8 y9 y10) (IVS.j2 (k + 1) y0 y1 y2 y3 y4 y5 y6 y7 y8 y9 y10))
 | 0 => ⟨fun _ _ _ _ _ _ _ _ _ _ _ _ r h => by simp [IVS.j0] at h, fun _ _ _ _ _ _ _ _ _ _ _ _ r h => by simp [IVS.j1] at h, fun _ _ _ _ _ _ _ _ _ _ _ r h => by simp [IVS.j2] at h⟩
 | k + 1 => by
  obtain ⟨ih0, ih1, ih2⟩ := IVS.mono_l k
  refine ⟨?_, ?_, ?_⟩
  ·intro y0 y1 y2 y3 y4 y5 y6 y7 y8 y9 y10 y11
   unfold IVS.j0
   repeat' first
   | (with_reducible exact ih0 _ _ _ _ _ _ _ _ _ _ _ _)
   | (with_reducible exact ih1 _ _ _ _ _ _ _ _ _ _ _ _)
   | (with_reducible exact ih2 _ _ _ _ _ _ _ _ _ _ _)
   | (with_reducible exact graftwoodlaw03_Few.mono _ _ _ _ _)
   | (with_reducible exact graftwoodlaw03_awake.mono _)
   | (with_reducible exact version_Cmp.mono _ _ _)
   | (with_reducible exact version_Join.mono _ _ _ _ _)
   | (with_reducible exact LeO.refl _)
   | (with_reducible exact LeO.none _)
   | (with_reducible refine LeO.ite ?_ ?_)
   | (with_reducible refine LeO.bind ?_ (fun _ => ?_))
   | refine LeO.ite ?_ ?_
   | refine LeO.bind ?_ (fun _ => ?_)
  ·intro y0 y1 y2 y3 y4 y5 y6 y7 y8 y9 y10 y11
   unfold IVS.j1
   repeat' first
   | (with_reducible exact ih0 _ _ _ _ _ _ _ _ _ _ _ _)
   | (with_reducible exact ih1 _ _ _ _ _ _ _ _ _ _ _ _)
   | (with_reducible exact ih2 _ _ _ _ _ _ _ _ _ _ _)
   | (with_reducible exact graftwoodlaw03_Few.mono _ _ _ _ _)
   | (with_reducible exact graftwoodlaw03_awake.mono _)
   | (with_reducible exact version_Cmp.mono _ _ _)
   | (with_reducible exact version_Join.mono _ _ _ _ _)
   | (with_reducible exact LeO.refl _)
   | (with_reducible exact LeO.none _)
   | (with_reducible refine LeO.ite ?_ ?_)
   | (with_reducible refine LeO.bind ?_ (fun _ => ?_))
   | refine LeO.ite ?_ ?_
   | refine LeO.bind ?_ (fun _ => ?_)
  ·intro y0 y1 y2 y3 y4 y5 y6 y7 y8 y9 y10
   unfold IVS.j2
   repeat' first
   | (with_reducible exact ih0 _ _ _ _ _ _ _ _ _ _ _ _)
   | (with_reducible exact ih1 _ _ _ _ _ _ _ _ _ _ _ _)
   | (with_reducible exact ih2 _ _ _ _ _ _ _ _ _ _ _)
   | (with_reducible exact graftwoodlaw03_Few.mono _ _ _ _ _)
   | (with_reducible exact graftwoodlaw03_awake.mono _)
   | (with_reducible exact version_Cmp.mono _ _ _)
   | (with_reducible exact version_Join.mono _ _ _ _ _)
   | (with_reducible exact LeO.refl _)
   | (with_reducible exact LeO.none _)
   | (with_reducible refine LeO.ite ?_ ?_)
   | (with_reducible refine LeO.bind ?_ (fun _ => ?_))
   | refine LeO.ite ?_ ?_
   | refine LeO.bind ?_ (fun _ => ?_)
theorem graftwoodlaw03_VersionSteps.mono : ∀ a0 a1 a2 a3 a4 a5 k, LeO (graftwoodlaw03_VersionSteps.f k a0 a1 a2 a3 a4 a5) (graftwoodlaw03_VersionSteps.f (k + 1) a0 a1 a2 a3 a4 a5) := by
 intro a0 a1 a2 a3 a4 a5 k
 obtain ⟨ih0, ih1, ih2⟩ := IVS.mono_l k
 unfold graftwoodlaw03_VersionSteps.f
 repeat' first
   | (with_reducible exact ih0 _ _ _ _ _ _ _ _ _ _ _ _)
   | (with_reducible exact ih1 _ _ _ _ _ _ _ _ _ _ _ _)
   | (with_reducible exact ih2 _ _ _ _ _ _ _ _ _ _ _)
   | (with_reducible exact graftwoodlaw03_Few.mono _ _ _ _ _)
   | (with_reducible exact graftwoodlaw03_awake.mono _)
   | (with_reducible exact version_Cmp.mono _ _ _)
   | (with_reducible exact version_Join.mono _ _ _ _ _)
   | (with_reducible exact LeO.refl _)
   | (with_reducible exact LeO.none _)
   | (with_reducible refine LeO.ite ?_ ?_)
   | (with_reducible refine LeO.bind ?_ (fun _ => ?_))
   | refine LeO.ite ?_ ?_
   | refine LeO.bind ?_ (fun _ => ?_)
def IVS.T13 : Bool × List (List Nat × List Nat) := (true, [([], []), ([0], [0]), ([1], [1]), ([], []), ([3], [3]), ([0, 1, 2], []), ([5, 2, 0, 1, 2], [2, 5]), ([0, 1, 2, 3, 4, 5, 6], []), ([7, 4, 6, 0, 1, 2, 3, 4, 5, 6], [4, 7])])
def IVS.B13 : List Nat := [0, 1, 3, 0, 8, 7, 39, 127, 255]
theorem IVS.tab13 : rtab .any (opsOf Tryd.f8 13) = IVS.T13 := by kernel_rfl
theorem IVS.bits13 : waitsOk IVS.T13.2 IVS.B13 = true := by kernel_rfl
def IVS.T20 : Bool × List (List Nat × List Nat) := (true, [([], []), ([], []), ([], []), ([], []), ([2, 0, 0, 2, 3], [0, 2]), ([3, 1, 4, 0, 1, 2, 3, 4], [1, 3])])
def IVS.B20 : List Nat := [0, 0, 0, 0, 13, 31]
theorem IVS.tab20 : rtab .any (opsOf Tryd.f8 20) = IVS.T20 := by kernel_rfl
theorem IVS.bits20 : waitsOk IVS.T20.2 IVS.B20 = true := by kernel_rfl
def IVS.T21 : Bool × List (List Nat × List Nat) := (true, [([], []), ([], []), ([1], [1]), ([0, 2], [0, 2]), ([], []), ([4], [4]), ([5], [5]), ([6], [6]), ([7], [7]), ([8], [8]), ([3, 9, 3], [3, 9]), ([], []), ([], []), ([12], [12]), ([11, 13, 10], [11, 13]), ([], []), ([15], [15]), ([16], [16]), ([17], [17]), ([18], [18]), ([19], [19]), ([14, 20, 14], [14, 20]), ([0, 1, 2, 3, 4, 5, 6, 7, 8, 9, 10], []), ([22, 10, 21, 0, 1, 2, 3, 4, 5, 6, 7, 8, 9, 10], [10, 22]), ([0, 1, 2, 3, 4, 5, 6, 7, 8, 9, 10, 11, 12, 13, 14, 15, 16, 17, 18, 19, 20, 21, 22, 23], []), ([24, 21, 23, 0, 1, 2, 3, 4, 5, 6, 7, 8, 9, 10, 11, 12, 13, 14, 15, 16, 17, 18, 19, 20, 21, 22, 23], [21, 24])])
def IVS.B21 : List Nat := [0, 0, 2, 7, 0, 16, 48, 112, 240, 496, 1023, 0, 0, 4096, 16383, 0, 32768, 98304, 229376, 491520, 1015808, 2097151, 2047, 8388607, 16777215, 33554431]
theorem IVS.tab21 : rtab .any (opsOf Tryd.f8 21) = IVS.T21 := by kernel_rfl
theorem IVS.bits21 : waitsOk IVS.T21.2 IVS.B21 = true := by kernel_rfl
set_option maxHeartbeats 8000000 in
set_option maxRecDepth 100000 in
theorem graftwoodlaw03_VersionSteps.calls (k : Nat) (a0_0 : ByteArray) (a0_1 : ByteArray) (a0_2 : ByteArray) (cE : Option Addr) (cF : Nat) (l0_3 : List ByteArray) (a1 : ByteArray) (a2 : Int) (r : Bool) (w : World) (hr0_3 : Kd.C Kd.string w cE l0_3.length l0_3) (hc0_3 : l0_3.length ≤ cF) (h : graftwoodlaw03_VersionSteps.f k a0_0 a0_1 a0_2 l0_3 a1 a2 = some r) (hR_ : r = true) :
  Calls Tryd.prog 8 #[.agg #[.string a0_0, .string a0_1, .string a0_2, .slice cE l0_3.length cF], .string a1, .int .u8 a2] w fun e w' => e = .returned (.bool r) ∧ Below w.heap.size w w' := by
 have hu36 := Tryd.underlying36
 have fW := Aside0.mk hr0_3
 have fX := Aside0.mk hc0_3
 clear hr0_3 hc0_3
 have HB := am (Below.refl w.heap.size w)
 have H : ((graftwoodlaw03_Few.f k a0_0 a0_1 a0_2 l0_3).bind fun bt221 => ((graftwoodlaw01_Few.f a1).bind fun cS => ((some (([] : List ByteArray) : List ByteArray)).bind fun cI => (if cI.length + bt221.2.2.2.length < 8796093022208 then ((some (cI ++ bt221.2.2.2 : List ByteArray)).bind fun cx => ((some (([cS] : List ByteArray) : List ByteArray)).bind fun cn => (if cx.length + cn.length < 8796093022208 then ((some (cx ++ cn : List ByteArray)).bind fun ap => ((version_Join.f k bt221.1 bt221.2.1 bt221.2.2.1 bt221.2.2.2).bind fun bt241 => ((version_Join.f k bt221.1 bt221.2.1 bt221.2.2.1 ap).bind fun bt243 => (if bt241.2 = 0 then (IVS.j0 k a2 bt241.1 bt243.1 (bt243.2 != 0) bt221.1 bt221.2.1 bt221.2.2.1 bt221.2.2.2 bt221.1 bt221.2.1 bt221.2.2.1 ap) else (IVS.j0 k a2 bt241.1 bt243.1 true bt221.1 bt221.2.1 bt221.2.2.1 bt221.2.2.2 bt221.1 bt221.2.1 bt221.2.2.1 ap))))) else (none)))) else (none))))) = some r := h
 clear h
 replace H := Option.bind_eq_some_iff.mp H
 obtain ⟨⟨al, an, ao, ak⟩, A40, H⟩ := H
 replace H : ((graftwoodlaw01_Few.f a1).bind fun cS => ((some (([] : List ByteArray) : List ByteArray)).bind fun cI => (if cI.length + ak.length < 8796093022208 then ((some (cI ++ ak : List ByteArray)).bind fun cx => ((some (([cS] : List ByteArray) : List ByteArray)).bind fun cn => (if cx.length + cn.length < 8796093022208 then ((some (cx ++ cn : List ByteArray)).bind fun ap => ((version_Join.f k al an ao ak).bind fun bt241 => ((version_Join.f k al an ao ap).bind fun bt243 => (if bt241.2 = 0 then (IVS.j0 k a2 bt241.1 bt243.1 (bt243.2 != 0) al an ao ak al an ao ap) else (IVS.j0 k a2 bt241.1 bt243.1 true al an ao ak al an ao ap))))) else (none)))) else (none)))) = some r := H
 have A4 := Aside0.mk A40
 clear A40
 replace H := Option.bind_eq_some_iff.mp H
 obtain ⟨cS, A50, H⟩ := H
 replace H : ((some (([] : List ByteArray) : List ByteArray)).bind fun cI => (if cI.length + ak.length < 8796093022208 then ((some (cI ++ ak : List ByteArray)).bind fun cx => ((some (([cS] : List ByteArray) : List ByteArray)).bind fun cn => (if cx.length + cn.length < 8796093022208 then ((some (cx ++ cn : List ByteArray)).bind fun ap => ((version_Join.f k al an ao ak).bind fun bt241 => ((version_Join.f k al an ao ap).bind fun bt243 => (if bt241.2 = 0 then (IVS.j0 k a2 bt241.1 bt243.1 (bt243.2 != 0) al an ao ak al an ao ap) else (IVS.j0 k a2 bt241.1 bt243.1 true al an ao ak al an ao ap))))) else (none)))) else (none))) = some r := H
 have A5 := Aside0.mk A50
 clear A50
 obtain ⟨cI, ei⟩ : ∃ y_ : List ByteArray, y_ = (([] : List ByteArray)) := ⟨_, rfl⟩
 replace H : (if cI.length + ak.length < 8796093022208 then ((some (cI ++ ak : List ByteArray)).bind fun cx => ((some (([cS] : List ByteArray) : List ByteArray)).bind fun cn => (if cx.length + cn.length < 8796093022208 then ((some (cx ++ cn : List ByteArray)).bind fun ap => ((version_Join.f k al an ao ak).bind fun bt241 => ((version_Join.f k al an ao ap).bind fun bt243 => (if bt241.2 = 0 then (IVS.j0 k a2 bt241.1 bt243.1 (bt243.2 != 0) al an ao ak al an ao ap) else (IVS.j0 k a2 bt241.1 bt243.1 true al an ao ak al an ao ap))))) else (none)))) else (none)) = some r := by first | (rw [ei]; with_reducible exact H) | (have H2_ := (Option.bind_some _ _).symm.trans H; rw [ei]; with_reducible exact H2_) | (have H2_ := (Option.bind_some _ _).symm.trans H; with_reducible exact H2_) | with_reducible exact H | (rw [ei]; exact H) | exact H
 have Ny229 := Aside0.mk ei
 clear ei
 by_cases c6 : cI.length + ak.length < 8796093022208
 ·skip
  rw [if_pos c6] at H
  have LMc6 := Aside0.mk c6
  clear c6
  obtain ⟨cx, ej⟩ : ∃ y_ : List ByteArray, y_ = (cI ++ ak) := ⟨_, rfl⟩
  replace H : ((some (([cS] : List ByteArray) : List ByteArray)).bind fun cn => (if cx.length + cn.length < 8796093022208 then ((some (cx ++ cn : List ByteArray)).bind fun ap => ((version_Join.f k al an ao ak).bind fun bt241 => ((version_Join.f k al an ao ap).bind fun bt243 => (if bt241.2 = 0 then (IVS.j0 k a2 bt241.1 bt243.1 (bt243.2 != 0) al an ao ak al an ao ap) else (IVS.j0 k a2 bt241.1 bt243.1 true al an ao ak al an ao ap))))) else (none))) = some r := by first | (rw [ej]; with_reducible exact H) | (have H2_ := (Option.bind_some _ _).symm.trans H; rw [ej]; with_reducible exact H2_) | (have H2_ := (Option.bind_some _ _).symm.trans H; with_reducible exact H2_) | with_reducible exact H | (rw [ej]; exact H) | exact H
  have Ny232 := Aside0.mk ej
  clear ej
  obtain ⟨cn, ek⟩ : ∃ y_ : List ByteArray, y_ = (([cS] : List ByteArray)) := ⟨_, rfl⟩
  replace H : (if cx.length + cn.length < 8796093022208 then ((some (cx ++ cn : List ByteArray)).bind fun ap => ((version_Join.f k al an ao ak).bind fun bt241 => ((version_Join.f k al an ao ap).bind fun bt243 => (if bt241.2 = 0 then (IVS.j0 k a2 bt241.1 bt243.1 (bt243.2 != 0) al an ao ak al an ao ap) else (IVS.j0 k a2 bt241.1 bt243.1 true al an ao ak al an ao ap))))) else (none)) = some r := by first | (rw [ek]; with_reducible exact H) | (have H2_ := (Option.bind_some _ _).symm.trans H; rw [ek]; with_reducible exact H2_) | (have H2_ := (Option.bind_some _ _).symm.trans H; with_reducible exact H2_) | with_reducible exact H | (rw [ek]; exact H) | exact H
  have Ny235 := Aside0.mk ek
  clear ek
  by_cases c7 : cx.length + cn.length < 8796093022208
  ·skip
   rw [if_pos c7] at H
   have LMc7 := Aside0.mk c7
   clear c7
   obtain ⟨ap, el⟩ : ∃ y_ : List ByteArray, y_ = (cx ++ cn) := ⟨_, rfl⟩
   replace H : ((version_Join.f k al an ao ak).bind fun bt241 => ((version_Join.f k al an ao ap).bind fun bt243 => (if bt241.2 = 0 then (IVS.j0 k a2 bt241.1 bt243.1 (bt243.2 != 0) al an ao ak al an ao ap) else (IVS.j0 k a2 bt241.1 bt243.1 true al an ao ak al an ao ap)))) = some r := by first | (rw [el]; with_reducible exact H) | (have H2_ := (Option.bind_some _ _).symm.trans H; rw [el]; with_reducible exact H2_) | (have H2_ := (Option.bind_some _ _).symm.trans H; with_reducible exact H2_) | with_reducible exact H | (rw [el]; exact H) | exact H
   have Ny238 := Aside0.mk el
   clear el
   replace H := Option.bind_eq_some_iff.mp H
   obtain ⟨⟨cB, em⟩, A80, H⟩ := H
   replace H : ((version_Join.f k al an ao ap).bind fun bt243 => (if em = 0 then (IVS.j0 k a2 cB bt243.1 (bt243.2 != 0) al an ao ak al an ao ap) else (IVS.j0 k a2 cB bt243.1 true al an ao ak al an ao ap))) = some r := H
   have A8 := Aside0.mk A80
   clear A80
   replace H := Option.bind_eq_some_iff.mp H
   obtain ⟨⟨dj, fJ⟩, A90, H⟩ := H
   replace H : (if em = 0 then (IVS.j0 k a2 cB dj (fJ != 0) al an ao ak al an ao ap) else (IVS.j0 k a2 cB dj true al an ao ak al an ao ap)) = some r := H
   have A9 := Aside0.mk A90
   clear A90
   have fK := Aside0.mk H
   clear H
   go_enter Tryd.func8, Tryd.ntmps8
   go_upto_region 6 with (first | ((with_reducible refine gate_dst (N := 3) rfl ?_); refine box_event ?hg (N := 3) ?hd (cs := #[.string a0_0, .string a0_1, .string a0_2, .slice cE l0_3.length cF]) (t := 36) ?hr ?_; (case hd => rfl); (case hg => rfl); (case hr => first | (go_simp; done) | (go_simp; rfl)); intro aK hg w11 hbox hb; have ae := am (hbox); have i3 := am ((by rw [hg]; exact (below_size (by repeat (first | (with_reducible first | exact HB.out | apply pA | apply pN | apply pD) | exact HB.out))) : w.heap.size ≤ aK)); have i4 := am ((by rw [hg]; exact (below_size (by repeat (first | (with_reducible first | exact HB.out | apply pA | apply pN | apply pD) | exact HB.out))) : w.heap.size ≤ aK)); replace HB := am (below_step (by repeat (first | (with_reducible first | exact HB.out | apply pA | apply pN | apply pD) | exact HB.out)) hb); clear hb hbox hg; have dk : w11.cell? ⟨aK, 0, none⟩ = some (.string a0_0) := cT ae 0; have dl : w11.cell? ⟨aK, 1, none⟩ = some (.string a0_1) := cT ae 1; have dm : w11.cell? ⟨aK, 2, none⟩ = some (.string a0_2) := cT ae 2; have dn : w11.cell? ⟨aK, 3, none⟩ = some (.slice cE l0_3.length cF) := cT ae 3; have dp := blk_frozen ae.out 0; have dq := blk_frozen ae.out 1; have dr := blk_frozen ae.out 2; have dt := blk_frozen ae.out 3) | ((with_reducible refine gate_callee (f := 17) rfl ?_); refine gL (some 29) Tryd.func17 #[.agg #[.string a0_0, .string a0_1, .string a0_2, .slice cE l0_3.length cF]] ?_; (with_reducible refine (graftwoodlaw03_Few.calls k a0_0 a0_1 a0_2 _ _ l0_3 al an ao ak _ ?side1 ?side2 A4.out).mono ?_); (case side1 => repeat (first | exact (Kd.C_below fW.out HB.out) | (with_reducible refine Kd.C_alloc ?_ _) | (with_reducible refine Kd.C_drewN ?_ _) | (with_reducible refine Kd.C_drew ?_))); (case side2 => exact fX.out); rintro e w13 ⟨iE, rfl, ho0, hb⟩; refine ⟨_, rfl, ?_⟩; have b2 := am (Kd.R_lower ho0 (below_size (by repeat (first | (with_reducible first | exact HB.out | apply pA | apply pN | apply pD | refine eU ?_ (by assumption)) | exact HB.out)))); replace ae := am (bB ae.out hb); replace HB := am (below_step (by repeat (first | (with_reducible first | exact HB.out | apply pA | apply pN | apply pD | refine eU ?_ (by assumption)) | exact HB.out)) hb); (try clear hb); (try clear hb2); (try clear hk); (try clear hi); (try clear ho0)) | ((with_reducible refine gate_callee (f := 10) rfl ?_); refine gL (some 31) Tryd.func10 #[.string a1] ?_; (with_reducible refine (graftwoodlaw01_Few.calls a1 cS _ A5.out).mono ?_); rintro e w' ⟨rfl, ⟨nd, rfl⟩⟩; refine ⟨_, rfl, ?_⟩; (try (rw [drewN_self w13]; generalize hq_ : World.drewN w13 _ = w13; have n0_ : Aside0 (Kd.R Kd.string 9 w13 w.heap.size (fun _ => True) iE ak) := ⟨by rw [← hq_]; exact (rT b2.out)⟩; have n1_ : Aside0 (w13.heap[aK]? = some (.cells #[.string a0_0, .string a0_1, .string a0_2, .slice cE l0_3.length cF] 36 (0, 0))) := ⟨by rw [← hq_]; exact (bT ae.out)⟩; have n2_ : Aside0 (Below w.heap.size w w13) := ⟨by rw [← hq_]; exact (by repeat (first | (with_reducible first | exact HB.out | apply pA | apply pN | apply pD | refine eU ?_ (by assumption)) | exact HB.out))⟩; clear b2 ae HB hq_; have b2 := n0_; have ae := n1_; have HB := n2_; clear n0_ n1_ n2_)); have du : w13.cell? ⟨aK, 0, none⟩ = some (.string a0_0) := cT ae 0; have dv : w13.cell? ⟨aK, 1, none⟩ = some (.string a0_1) := cT ae 1; have dw : w13.cell? ⟨aK, 2, none⟩ = some (.string a0_2) := cT ae 2; have dx : w13.cell? ⟨aK, 3, none⟩ = some (.slice cE l0_3.length cF) := cT ae 3; have dy := blk_frozen ae.out 0; have dz := blk_frozen ae.out 1; have dA := blk_frozen ae.out 2; have dB := blk_frozen ae.out 3; obtain ⟨aA, az, iG⟩ := Kd.R_slice b2.out; subst iG) | ((with_reducible refine gate_dst (N := 7) rfl ?_); refine box_event ?hg (N := 7) ?hd (cs := #[.string (⟨#[]⟩ : ByteArray), .string (⟨#[]⟩ : ByteArray), .string (⟨#[]⟩ : ByteArray), .slice none 0 0]) (t := 36) ?hr ?_; (case hd => rfl); (case hg => rfl); (case hr => first | (go_simp; done) | (go_simp; rfl)); intro aZ hg w16 hbox hb; replace b2 := am (Kd.R_below (by (with_reducible repeat (first | apply Kd.R_alloc | apply Kd.R_drewN | apply Kd.R_drew)); exact (Kd.R_mono (Kd.R_far (p := ⟨aK, 3, none⟩) (Kd.R_far (p := ⟨aK, 2, none⟩) (Kd.R_far (p := ⟨aK, 1, none⟩) (Kd.R_far (p := ⟨aK, 0, none⟩) (Kd.R_types b2.out ae.out (by decide)) (fun _ hk => hk.2) (.string al)) (fun _ hk => hk.2) (.string an)) (fun _ hk => hk.2) (.string ao)) (fun _ hk => hk.2) (.slice aA ak.length az)) (fun _ h_ => h_.1))) hb); have ai := am (hbox); have i5 := am ((by rw [hg]; exact (below_size (by repeat (first | (with_reducible first | exact HB.out | apply pA | apply pN | apply pD | refine eU ?_ (by assumption)) | exact HB.out))) : w.heap.size ≤ aZ)); have i6 := am ((by rw [hg]; exact (below_size (by repeat (first | (with_reducible first | exact HB.out | apply pA | apply pN | apply pD | refine eU ?_ (by assumption)) | exact HB.out))) : w.heap.size ≤ aZ)); have ce := am ((by rw [hg]; exact Nat.ne_of_lt (blk_lt (g := aK) (o := .cells #[.string al, .string an, .string ao, .slice aA ak.length az] 36 (0, 0)) (by (with_reducible repeat (first | apply bn | apply bd | apply ba)); refine blk_put (cs := #[.string al, .string an, .string ao, .slice cE l0_3.length cF]) ?_ 3 _ rfl; (with_reducible repeat (first | apply bn | apply bd | apply ba)); refine blk_put (cs := #[.string al, .string an, .string a0_2, .slice cE l0_3.length cF]) ?_ 2 _ rfl; (with_reducible repeat (first | apply bn | apply bd | apply ba)); refine blk_put (cs := #[.string al, .string a0_1, .string a0_2, .slice cE l0_3.length cF]) ?_ 1 _ rfl; (with_reducible repeat (first | apply bn | apply bd | apply ba)); refine blk_put (cs := #[.string a0_0, .string a0_1, .string a0_2, .slice cE l0_3.length cF]) ?_ 0 _ rfl; exact bT ae.out)) : aK ≠ aZ)); have c0 := am ((by rw [hg]; exact Nat.ne_of_gt (blk_lt (g := aK) (o := .cells #[.string al, .string an, .string ao, .slice aA ak.length az] 36 (0, 0)) (by (with_reducible repeat (first | apply bn | apply bd | apply ba)); refine blk_put (cs := #[.string al, .string an, .string ao, .slice cE l0_3.length cF]) ?_ 3 _ rfl; (with_reducible repeat (first | apply bn | apply bd | apply ba)); refine blk_put (cs := #[.string al, .string an, .string a0_2, .slice cE l0_3.length cF]) ?_ 2 _ rfl; (with_reducible repeat (first | apply bn | apply bd | apply ba)); refine blk_put (cs := #[.string al, .string a0_1, .string a0_2, .slice cE l0_3.length cF]) ?_ 1 _ rfl; (with_reducible repeat (first | apply bn | apply bd | apply ba)); refine blk_put (cs := #[.string a0_0, .string a0_1, .string a0_2, .slice cE l0_3.length cF]) ?_ 0 _ rfl; exact bT ae.out)) : aZ ≠ aK)); replace ae := am (blk_below (g := aK) (o := .cells #[.string al, .string an, .string ao, .slice aA ak.length az] 36 (0, 0)) (by (with_reducible repeat (first | apply bn | apply bd | apply ba)); refine blk_put (cs := #[.string al, .string an, .string ao, .slice cE l0_3.length cF]) ?_ 3 _ rfl; (with_reducible repeat (first | apply bn | apply bd | apply ba)); refine blk_put (cs := #[.string al, .string an, .string a0_2, .slice cE l0_3.length cF]) ?_ 2 _ rfl; (with_reducible repeat (first | apply bn | apply bd | apply ba)); refine blk_put (cs := #[.string al, .string a0_1, .string a0_2, .slice cE l0_3.length cF]) ?_ 1 _ rfl; (with_reducible repeat (first | apply bn | apply bd | apply ba)); refine blk_put (cs := #[.string a0_0, .string a0_1, .string a0_2, .slice cE l0_3.length cF]) ?_ 0 _ rfl; exact bT ae.out) hb); replace HB := am (below_step (by repeat (first | (with_reducible first | exact HB.out | apply pA | apply pN | apply pD | refine eU ?_ (by assumption)) | exact HB.out)) hb); clear hb hbox hg; have i7 := c0.out; have i8 := ce.out; have dC : w16.cell? ⟨aZ, 0, none⟩ = some (.string (⟨#[]⟩ : ByteArray)) := cT ai 0; have dD : w16.cell? ⟨aZ, 1, none⟩ = some (.string (⟨#[]⟩ : ByteArray)) := cT ai 1; have dE : w16.cell? ⟨aZ, 2, none⟩ = some (.string (⟨#[]⟩ : ByteArray)) := cT ai 2; have dF : w16.cell? ⟨aZ, 3, none⟩ = some (.slice none 0 0) := cT ai 3; have dG := blk_frozen ai.out 0; have dH := blk_frozen ai.out 1; have dI := blk_frozen ai.out 2; have dJ := blk_frozen ai.out 3) | ((with_reducible refine gate_dst (N := 33) rfl ?_); refine Kd.R_lit Kd.string _ 9 ?hg (N := 33) ?hd (xs := ([] : List ByteArray)) (inner := []) (ok := fun _ => True) (okp := fun _ => True) ?hr ?hp (fun _ hk => hk) trivial (Below.refl _ _) (Nat.le_refl _) (by simp) ?_; (case hd => rfl); (case hg => rfl); (case hr => first | (go_simp; done) | (go_simp; rfl)); (case hp => exact (Reps.none _ _)); intro iH w19 ho20 hb hg_ hnew_; clear hg_ hnew_; (first | rw [← Ny229.out] at ho20 | (simp only [Int.reduceToNat] at ho20; rw [← Ny229.out] at ho20)); have eA := am (Kd.R_lower (Kd.R_new' ho20 (Kd.R_lt (by (with_reducible repeat (first | apply Kd.R_alloc | apply Kd.R_drewN | apply Kd.R_drew)); exact (Kd.R_mono (Kd.R_far (p := ⟨aZ, 3, none⟩) (Kd.R_far (p := ⟨aZ, 2, none⟩) (Kd.R_far (p := ⟨aZ, 1, none⟩) (Kd.R_far (p := ⟨aZ, 0, none⟩) (Kd.R_types b2.out ai.out (by decide)) (fun _ hk => hk.2) (.string al)) (fun _ hk => hk.2) (.string an)) (fun _ hk => hk.2) (.string ao)) (fun _ hk => hk.2) (.slice aA ak.length az)) (fun _ h_ => h_.1))))) (below_size (by repeat (first | (with_reducible first | exact HB.out | apply pA | apply pN | apply pD | refine eU ?_ (by assumption)) | exact HB.out)))); replace ae := am (blk_below (g := aK) (o := .cells #[.string al, .string an, .string ao, .slice aA ak.length az] 36 (0, 0)) (by (with_reducible repeat (first | apply bn | apply bd | apply ba)); refine blk_far ?_ ce.out _; (with_reducible repeat (first | apply bn | apply bd | apply ba)); refine blk_far ?_ ce.out _; (with_reducible repeat (first | apply bn | apply bd | apply ba)); refine blk_far ?_ ce.out _; (with_reducible repeat (first | apply bn | apply bd | apply ba)); refine blk_far ?_ ce.out _; exact bT ae.out) hb); replace b2 := am (Kd.R_elder' (by (with_reducible repeat (first | apply Kd.R_alloc | apply Kd.R_drewN | apply Kd.R_drew)); exact (Kd.R_mono (Kd.R_far (p := ⟨aZ, 3, none⟩) (Kd.R_far (p := ⟨aZ, 2, none⟩) (Kd.R_far (p := ⟨aZ, 1, none⟩) (Kd.R_far (p := ⟨aZ, 0, none⟩) (Kd.R_types b2.out ai.out (by decide)) (fun _ hk => hk.2) (.string al)) (fun _ hk => hk.2) (.string an)) (fun _ hk => hk.2) (.string ao)) (fun _ hk => hk.2) (.slice aA ak.length az)) (fun _ h_ => h_.1))) (Kd.R_base ho20) hb); replace HB := am (below_step (by repeat (first | (with_reducible first | exact HB.out | apply pA | apply pN | apply pD | refine eU ?_ (by assumption)) | exact HB.out)) hb); replace ai := am (blk_below (g := aZ) (o := .cells #[.string al, .string an, .string ao, .slice aA ak.length az] 36 (0, 0)) (by (with_reducible repeat (first | apply bn | apply bd | apply ba)); refine blk_put (cs := #[.string al, .string an, .string ao, .slice none 0 0]) ?_ 3 _ rfl; (with_reducible repeat (first | apply bn | apply bd | apply ba)); refine blk_put (cs := #[.string al, .string an, .string (⟨#[]⟩ : ByteArray), .slice none 0 0]) ?_ 2 _ rfl; (with_reducible repeat (first | apply bn | apply bd | apply ba)); refine blk_put (cs := #[.string al, .string (⟨#[]⟩ : ByteArray), .string (⟨#[]⟩ : ByteArray), .slice none 0 0]) ?_ 1 _ rfl; (with_reducible repeat (first | apply bn | apply bd | apply ba)); refine blk_put (cs := #[.string (⟨#[]⟩ : ByteArray), .string (⟨#[]⟩ : ByteArray), .string (⟨#[]⟩ : ByteArray), .slice none 0 0]) ?_ 0 _ rfl; exact bT ai.out) hb); clear hb ho20; have dK : w19.cell? ⟨aK, 0, none⟩ = some (.string al) := cT ae 0; have dL : w19.cell? ⟨aK, 1, none⟩ = some (.string an) := cT ae 1; have dM : w19.cell? ⟨aK, 2, none⟩ = some (.string ao) := cT ae 2; have dN : w19.cell? ⟨aK, 3, none⟩ = some (.slice aA ak.length az) := cT ae 3; have dP := blk_frozen ae.out 0; have dQ := blk_frozen ae.out 1; have dR := blk_frozen ae.out 2; have dS := blk_frozen ae.out 3) | ((with_reducible refine gate_builtin (b := .append) (xs := #[.tmp 33, .tmp 35]) rfl ?_); at_builtin; refine Kd.R_append_rows Kd.string (w0 := w) w.heap.size rfl (.tmp 33) (.tmp 35) 29 9 (.string ⟨#[]⟩) 16 rfl Tryd.underlying29 info9 rfl (by decide) (by omega) iH cI ak _ _ _ (fun k_ => some k_ ≠ (.slice aA ak.length az : Value).ownBlock) (fun _ => False) rfl rfl ?aO ?aR (fun _ _ h => h) (fun _ h => h.elim) ?aF ?aB ?aS ?aL ?_; (case aR => repeat (first | exact (Kd.R_reads' b2.out).2.2 | (with_reducible refine Kd.C_alloc ?_ _) | (with_reducible refine Kd.C_drewN ?_ _) | (with_reducible refine Kd.C_drew ?_))); (case aB => exact (by repeat (first | (with_reducible first | exact HB.out | apply pA | apply pN | apply pD | refine eU ?_ (by assumption)) | exact HB.out))); (case aF => exact (fun k_ hk => Kd.fresh' (Kd.R_lt (rT b2.out)) k_ hk)); (case aO => exact (by (with_reducible repeat (first | apply Kd.R_alloc | apply Kd.R_drewN | apply Kd.R_drew)); exact Kd.R_mono eA.out (fun _ hk => hk.2))); (case aS => exact (below_size (by repeat (first | (with_reducible first | exact HB.out | apply pA | apply pN | apply pD | refine eU ?_ (by assumption)) | exact HB.out)))); (case aL => have := LMc6.out; omega); intro iI w22 ho hb hg hat; rw [← Ny232.out] at ho; replace ae := am (blk_grown (g := aK) (o := .cells #[.string al, .string an, .string ao, .slice aA ak.length az] 36 (0, 0)) (bT ae.out) hg (Kd.R_ne eA.out ae.out (by decide))); replace b2 := am (Kd.R_after (ok := (fun _ => True)) (rT b2.out) hg hat); replace ai := am (blk_grown (g := aZ) (o := .cells #[.string al, .string an, .string ao, .slice aA ak.length az] 36 (0, 0)) (bT ai.out) hg (Kd.R_ne eA.out ai.out (by decide))); replace HB := am (hb); have c_ := am (ho); clear eA ho hb hg hat) | ((with_reducible refine gate_dst (N := 38) rfl ?_); refine Kd.R_lit Kd.string _ 9 ?hg (N := 38) ?hd (xs := ([cS] : List ByteArray)) (inner := [.string cS]) (ok := fun _ => True) (okp := fun _ => True) ?hr ?hp (fun _ hk => hk) trivial (Below.refl _ _) (Nat.le_refl _) (by simp) ?_; (case hd => rfl); (case hg => rfl); (case hr => first | (go_simp; done) | (go_simp; rfl)); (case hp => exact (Reps.one (show Kd.M Kd.string _ _ _ cS [.string cS] from rfl) (Reps.none _ _))); intro jy w23 ho24 hb hg_ hnew_; clear hg_ hnew_; (first | rw [← Ny235.out] at ho24 | (simp only [Int.reduceToNat] at ho24; rw [← Ny235.out] at ho24)); have cX := am (Kd.R_lower (Kd.R_new' (Kd.R_new' ho24 (Kd.R_lt (rT b2.out))) (Kd.R_lt (rT c_.out))) (below_size (by repeat (first | (with_reducible first | exact HB.out | apply pA | apply pN | apply pD | refine eU ?_ (by assumption)) | exact HB.out)))); replace ae := am (bB ae.out hb); replace ai := am (bB ai.out hb); replace b2 := am (Kd.R_elder' (rT b2.out) (Kd.R_base ho24) hb); replace c_ := am (Kd.R_elder' (rT c_.out) (Kd.R_base ho24) hb); replace HB := am (below_step (by repeat (first | (with_reducible first | exact HB.out | apply pA | apply pN | apply pD | refine eU ?_ (by assumption)) | exact HB.out)) hb); clear hb ho24; obtain ⟨fL, fM, iJ⟩ := Kd.R_slice cX.out; subst iJ) | ((with_reducible refine gate_builtin (b := .append) (xs := #[.tmp 36, .tmp 38]) rfl ?_); at_builtin; refine Kd.R_append_rows Kd.string (w0 := w) w.heap.size rfl (.tmp 36) (.tmp 38) 29 9 (.string ⟨#[]⟩) 16 rfl Tryd.underlying29 info9 rfl (by decide) (by omega) iI cx cn _ _ _ (fun k_ => some k_ ≠ (.slice aA ak.length az : Value).ownBlock ∧ some k_ ≠ (.slice fL cn.length fM : Value).ownBlock) (fun _ => False) rfl rfl ?aO ?aR (fun _ _ h => h) (fun _ h => h.elim) ?aF ?aB ?aS ?aL ?_; (case aR => repeat (first | exact (Kd.R_reads' cX.out).2.2 | (with_reducible refine Kd.C_alloc ?_ _) | (with_reducible refine Kd.C_drewN ?_ _) | (with_reducible refine Kd.C_drew ?_))); (case aB => exact (by repeat (first | (with_reducible first | exact HB.out | apply pA | apply pN | apply pD | refine eU ?_ (by assumption)) | exact HB.out))); (case aF => exact (fun k_ hk => ⟨Kd.fresh' (Kd.R_lt (rT b2.out)) k_ hk, Kd.fresh' (Kd.R_lt (rT cX.out)) k_ hk⟩)); (case aO => exact (rT c_.out)); (case aS => exact (below_size (by repeat (first | (with_reducible first | exact HB.out | apply pA | apply pN | apply pD | refine eU ?_ (by assumption)) | exact HB.out)))); (case aL => have := LMc7.out; omega); intro jz w25 ho hb hg hat; rw [← Ny238.out] at ho; replace ae := am (blk_grown (g := aK) (o := .cells #[.string al, .string an, .string ao, .slice aA ak.length az] 36 (0, 0)) (bT ae.out) hg (Kd.R_ne c_.out ae.out (by decide))); replace b2 := am (Kd.R_after (ok := (fun k_ => some k_ ≠ (.slice fL cn.length fM : Value).ownBlock)) (by (with_reducible repeat (first | apply Kd.R_alloc | apply Kd.R_drewN | apply Kd.R_drew)); exact Kd.R_mono b2.out (fun _ hk => ⟨hk.2, hk.1.2⟩)) hg hat); replace ai := am (blk_grown (g := aZ) (o := .cells #[.string al, .string an, .string ao, .slice aA ak.length az] 36 (0, 0)) (bT ai.out) hg (Kd.R_ne c_.out ai.out (by decide))); replace cX := am (Kd.R_after (ok := (fun k_ => some k_ ≠ (.slice aA ak.length az : Value).ownBlock)) (by (with_reducible repeat (first | apply Kd.R_alloc | apply Kd.R_drewN | apply Kd.R_drew)); exact Kd.R_mono cX.out (fun _ hk => ⟨hk.1.2, hk.2⟩)) hg hat); replace HB := am (hb); have cY := am (ho); clear c_ ho hb hg hat; obtain ⟨aD, aC, iK⟩ := Kd.R_slice cY.out; subst iK; have dT : w25.cell? ⟨aZ, 0, none⟩ = some (.string al) := cT ai 0; have dU : w25.cell? ⟨aZ, 1, none⟩ = some (.string an) := cT ai 1; have dV : w25.cell? ⟨aZ, 2, none⟩ = some (.string ao) := cT ai 2; have dW : w25.cell? ⟨aZ, 3, none⟩ = some (.slice aA ak.length az) := cT ai 3; have dX := blk_frozen ai.out 0; have dY := blk_frozen ai.out 1; have dZ := blk_frozen ai.out 2; have d0 := blk_frozen ai.out 3; have d1 : w25.cell? ⟨aK, 0, none⟩ = some (.string al) := cT ae 0; have d2 : w25.cell? ⟨aK, 1, none⟩ = some (.string an) := cT ae 1; have d3 : w25.cell? ⟨aK, 2, none⟩ = some (.string ao) := cT ae 2; have d4 : w25.cell? ⟨aK, 3, none⟩ = some (.slice aA ak.length az) := cT ae 3; have d5 := blk_frozen ae.out 0; have d6 := blk_frozen ae.out 1; have d7 := blk_frozen ae.out 2; have d8 := blk_frozen ae.out 3) | ((with_reducible refine gate_callee (f := 20) rfl ?_); refine gL (some 43) Tryd.func20 #[.agg #[.string al, .string an, .string ao, .slice aA ak.length az]] ?_; (with_reducible refine (version_Join.calls k al an ao _ _ ak cB em _ ?side1 ?side2 A8.out).mono ?_); (case side1 => refine (Kd.R_reads' (e := 9) (base := w.heap.size) (ok := fun k_ => (some k_ ≠ (.slice fL cn.length fM : Value).ownBlock ∧ some k_ ≠ (.slice aD ap.length aC : Value).ownBlock)) (n := ak.length) (c := az) ?_).2.2; exact (by (with_reducible repeat (first | apply Kd.R_alloc | apply Kd.R_drewN | apply Kd.R_drew)); exact (Kd.R_mono (Kd.R_far (p := ⟨aZ, 3, none⟩) (Kd.R_types b2.out ai.out (by decide)) (fun _ hk => hk.2) (.slice aD ap.length aC)) (fun _ h_ => h_.1)))); (case side2 => exact (Kd.R_reads' b2.out).2.1); rintro e w30 ⟨rfl, hb⟩; refine ⟨_, rfl, ?_⟩; replace b2 := am (Kd.R_below (by (with_reducible repeat (first | apply Kd.R_alloc | apply Kd.R_drewN | apply Kd.R_drew)); exact (Kd.R_mono (Kd.R_far (p := ⟨aZ, 3, none⟩) (Kd.R_types b2.out ai.out (by decide)) (fun _ hk => hk.2) (.slice aD ap.length aC)) (fun _ h_ => h_.1))) hb); replace cX := am (Kd.R_below (by (with_reducible repeat (first | apply Kd.R_alloc | apply Kd.R_drewN | apply Kd.R_drew)); exact (Kd.R_mono (Kd.R_far (p := ⟨aZ, 3, none⟩) (Kd.R_types cX.out ai.out (by decide)) (fun _ hk => hk.2) (.slice aD ap.length aC)) (fun _ h_ => h_.1))) hb); replace cY := am (Kd.R_below (by (with_reducible repeat (first | apply Kd.R_alloc | apply Kd.R_drewN | apply Kd.R_drew)); exact (Kd.R_mono (Kd.R_far (p := ⟨aZ, 3, none⟩) (Kd.R_types cY.out ai.out (by decide)) (fun _ hk => hk.2) (.slice aD ap.length aC)) (fun _ h_ => h_.1))) hb); replace ae := am (blk_below (g := aK) (o := .cells #[.string al, .string an, .string ao, .slice aA ak.length az] 36 (0, 0)) (by (with_reducible repeat (first | apply bn | apply bd | apply ba)); refine blk_far ?_ ce.out _; exact bT ae.out) hb); replace HB := am (below_step (by repeat (first | (with_reducible first | exact HB.out | apply pA | apply pN | apply pD | refine eU ?_ (by assumption)) | exact HB.out)) hb); replace ai := am (blk_below (g := aZ) (o := .cells #[.string al, .string an, .string ao, .slice aD ap.length aC] 36 (0, 0)) (by (with_reducible repeat (first | apply bn | apply bd | apply ba)); refine blk_put (cs := #[.string al, .string an, .string ao, .slice aA ak.length az]) ?_ 3 _ rfl; exact bT ai.out) hb); (try clear hb); (try clear hb2); (try clear hk); (try clear hi); have d9 : w30.cell? ⟨aZ, 0, none⟩ = some (.string al) := cT ai 0; have d_ : w30.cell? ⟨aZ, 1, none⟩ = some (.string an) := cT ai 1; have ea : w30.cell? ⟨aZ, 2, none⟩ = some (.string ao) := cT ai 2; have eb : w30.cell? ⟨aZ, 3, none⟩ = some (.slice aD ap.length aC) := cT ai 3; have ec := blk_frozen ai.out 0; have ed := blk_frozen ai.out 1; have ee := blk_frozen ai.out 2; have ef := blk_frozen ai.out 3) | ((with_reducible refine gate_callee (f := 20) rfl ?_); refine gL (some 48) Tryd.func20 #[.agg #[.string al, .string an, .string ao, .slice aD ap.length aC]] ?_; (with_reducible refine (version_Join.calls k al an ao _ _ ap dj fJ _ ?side1 ?side2 A9.out).mono ?_); (case side1 => repeat (first | exact (Kd.R_reads' cY.out).2.2 | (with_reducible refine Kd.C_alloc ?_ _) | (with_reducible refine Kd.C_drewN ?_ _) | (with_reducible refine Kd.C_drew ?_))); (case side2 => exact (Kd.R_reads' cY.out).2.1); rintro e w32 ⟨rfl, hb⟩; refine ⟨_, rfl, ?_⟩; replace b2 := am (rB b2.out hb); replace cX := am (rB cX.out hb); replace cY := am (rB cY.out hb); replace ae := am (bB ae.out hb); replace ai := am (bB ai.out hb); replace HB := am (below_step (by repeat (first | (with_reducible first | exact HB.out | apply pA | apply pN | apply pD | refine eU ?_ (by assumption)) | exact HB.out)) hb); (try clear hb); (try clear hb2); (try clear hk); (try clear hi)))
   (try simp only [Act.put, List.setIfInBounds_toArray, List.set_cons_zero, List.set_cons_succ])
   go_cut [56] (fun v56 wc => ∃ (kq : Nat) (eB : Bool), v56 = .bool eB ∧ Aside0 (IVS.j0 kq a2 cB dj eB al an ao ak al an ao ap = some r) ∧ Aside0 (kq ≤ k) ∧ Aside0 (Kd.R Kd.string 9 wc w.heap.size (fun k_ => some k_ ≠ ((.slice aD ap.length aC) : Value).ownBlock) (.slice aA ak.length az) ak) ∧ Aside0 (Kd.R Kd.string 9 wc w.heap.size (fun k_ => some k_ ≠ ((.slice aA ak.length az) : Value).ownBlock) (.slice aD ap.length aC) ap) ∧ Aside0 (wc.heap[aK]? = some (.cells #[.string al, .string an, .string ao, (.slice aA ak.length az)] 36 (0, 0))) ∧ Aside0 (wc.heap[aZ]? = some (.cells #[.string al, .string an, .string ao, (.slice aD ap.length aC)] 36 (0, 0))) ∧ Aside0 (Below w.heap.size w wc))
   case first =>
    have H := fK.out
    clear fK
    by_cases c33 : em = 0
    ·rw [if_pos c33] at H
     have c9 : (em == 0) = true := beq_iff_eq.mpr c33
     have eC : (em != 0) = false := bne_eq_false_iff_eq.mpr c33
     clear c33
     (first | rw [c9] | (simp only [i64_w, i32_w]; rw [c9]) | skip)
     have H' := Aside0.mk H
     clear H
     go_wp2
     go_meet
     case rel => exact ⟨_, ((fJ != 0)), (by first | rfl | (simp; done) | (simp [*]; done)), H', ⟨by first | omega | exact Nat.le_refl _⟩, ⟨by (with_reducible repeat (first | apply Kd.R_alloc | apply Kd.R_drewN | apply Kd.R_drew)); exact Kd.R_mono b2.out (fun _ hk => hk.2)⟩, ⟨by (with_reducible repeat (first | apply Kd.R_alloc | apply Kd.R_drewN | apply Kd.R_drew)); exact Kd.R_mono cY.out (fun _ hk => hk.1)⟩, ⟨bT ae.out⟩, ⟨bT ai.out⟩, ⟨eT HB.out⟩⟩
    ·rw [if_neg c33] at H
     have c9 : (em == 0) = false := beq_eq_false_iff_ne.mpr c33
     have eC : (em != 0) = true := bne_iff_ne.mpr c33
     (first | rw [c9] | (simp only [i64_w, i32_w]; rw [c9]) | skip)
     have H' := Aside0.mk H
     clear H
     go_wp2
     go_meet
     case rel => exact ⟨_, (true), (by first | rfl | (simp; done) | (simp [*]; done)), H', ⟨by first | omega | exact Nat.le_refl _⟩, ⟨by (with_reducible repeat (first | apply Kd.R_alloc | apply Kd.R_drewN | apply Kd.R_drew)); exact Kd.R_mono b2.out (fun _ hk => hk.2)⟩, ⟨by (with_reducible repeat (first | apply Kd.R_alloc | apply Kd.R_drewN | apply Kd.R_drew)); exact Kd.R_mono cY.out (fun _ hk => hk.1)⟩, ⟨bT ae.out⟩, ⟨bT ai.out⟩, ⟨eT HB.out⟩⟩
   case rest =>
    clear fK
    try clear c1
    try clear c2
    try clear p2
    try clear c3
    try clear c6
    try clear c7
    try clear c8
    try clear c10
    try clear c17
    try clear c20
    try clear c33
    try clear c9
    try clear eC
    try clear dk
    try clear dl
    try clear dm
    try clear dn
    try clear du
    try clear dv
    try clear dw
    try clear dx
    try clear dC
    try clear dD
    try clear dE
    try clear dF
    try clear dK
    try clear dL
    try clear dM
    try clear dN
    try clear dT
    try clear dU
    try clear dV
    try clear dW
    try clear d1
    try clear d2
    try clear d3
    try clear d4
    try clear d9
    try clear d_
    try clear ea
    try clear eb
    try clear dp
    try clear dq
    try clear dr
    try clear dt
    try clear dy
    try clear dz
    try clear dA
    try clear dB
    try clear dG
    try clear dH
    try clear dI
    try clear dJ
    try clear dP
    try clear dQ
    try clear dR
    try clear dS
    try clear dX
    try clear dY
    try clear dZ
    try clear d0
    try clear d5
    try clear d6
    try clear d7
    try clear d8
    try clear ec
    try clear ed
    try clear ee
    try clear ef
    obtain ⟨kq, eB, rfl, HA, HJ9, ab, aa, ae, ai, HB⟩ := hcut
    cases kq with
    | zero => exact absurd HA.out (by simp [IVS.j0])
    | succ kj9 =>
     have H := HA.out
     clear HA
     simp only [IVS.j0] at H
     by_cases c34 : eB = true
     ·subst c34
      have H1 : ((graftwoodlaw03_awake.f kj9).bind fun eL => (some eL)) = some r := by rw [if_pos rfl] at H; exact H
      clear H
      have H := H1
      clear H1
      replace H := Option.bind_eq_some_iff.mp H
      obtain ⟨eL, fY, H⟩ := H
      replace H : (some eL) = some r := H
      have A35 := Aside0.mk fY
      clear fY
      obtain rfl := Option.some.inj H
      go_wp2_with (first | ((with_reducible refine gate_callee (f := 13) rfl ?_); refine gL (some 57) Tryd.func13 #[] ?_; (with_reducible refine (graftwoodlaw03_awake.calls kj9  eL _ A35.out).mono ?_); rintro e w36 ⟨rfl, hb⟩; refine ⟨_, rfl, ?_⟩; replace ab := am (rB ab.out hb); replace aa := am (rB aa.out hb); replace ae := am (bB ae.out hb); replace ai := am (bB ai.out hb); replace HB := am (sT HB.out hb); (try clear hb); (try clear hb2); (try clear hk); (try clear hi)))
      go_ret
      exact ⟨by first | rfl | (simp [errW_none, errW_some] <;> rfl) | (simp [*, errW_none, errW_some] <;> rfl), eT HB.out⟩
     ·replace c34 := Bool.eq_false_iff.mpr c34
      subst c34
      have H1 : (if (ak.length : Int) = 0 then (IVS.j1 kj9 a2 cB dj 1 al an ao ak al an ao ap) else (IVS.j1 kj9 a2 cB dj (-1) al an ao ak al an ao ap)) = some r := by rw [if_neg (show ¬ (false = true) by decide)] at H; exact H
      clear H
      have H := H1
      clear H1
      have fN := Aside0.mk H
      clear H
      have i9 := ce.out
      have i_ := c0.out
      have eD : wc.cell? ⟨aK, 0, none⟩ = some (.string al) := cT ae 0
      have eE : wc.cell? ⟨aK, 1, none⟩ = some (.string an) := cT ae 1
      have eF : wc.cell? ⟨aK, 2, none⟩ = some (.string ao) := cT ae 2
      have eG : wc.cell? ⟨aK, 3, none⟩ = some (.slice aA ak.length az) := cT ae 3
      have eH := blk_frozen ae.out 0
      have eI := blk_frozen ae.out 1
      have eJ := blk_frozen ae.out 2
      have eK := blk_frozen ae.out 3
      go_upto_if 61 with (fail)
      go_cut [12] (fun v12 wc => ∃ (kq : Nat) (bv : Int), v12 = .int .i64 bv ∧ Aside0 (IVS.j1 kq a2 cB dj bv al an ao ak al an ao ap = some r) ∧ Aside0 (kq ≤ kj9) ∧ Aside0 (Kd.R Kd.string 9 wc w.heap.size (fun k_ => some k_ ≠ ((.slice aD ap.length aC) : Value).ownBlock) (.slice aA ak.length az) ak) ∧ Aside0 (Kd.R Kd.string 9 wc w.heap.size (fun k_ => some k_ ≠ ((.slice aA ak.length az) : Value).ownBlock) (.slice aD ap.length aC) ap) ∧ Aside0 (wc.heap[aK]? = some (.cells #[.string al, .string an, .string ao, (.slice aA ak.length az)] 36 (0, 0))) ∧ Aside0 (wc.heap[aZ]? = some (.cells #[.string al, .string an, .string ao, (.slice aD ap.length aC)] 36 (0, 0))) ∧ Aside0 (Below w.heap.size w wc))
      case first =>
       have H := fN.out
       clear fN
       by_cases c40 : (ak.length : Int) = 0
       ·rw [if_pos c40] at H
        have da : ((ak.length : Int) == 0) = true := beq_iff_eq.mpr c40
        have eM : ((ak.length : Int) != 0) = false := bne_eq_false_iff_eq.mpr c40
        clear c40
        (first | rw [da] | (simp only [i64_w, i32_w]; rw [da]) | skip)
        have H' := Aside0.mk H
        clear H
        go_wp2
        go_meet
        case rel => exact ⟨_, (1), (by first | rfl | (simp; done) | (simp [*]; done)), H', ⟨by have := HJ9.out; first | omega | exact Nat.le_refl _⟩, ⟨rT ab.out⟩, ⟨rT aa.out⟩, ⟨bT ae.out⟩, ⟨bT ai.out⟩, ⟨eT HB.out⟩⟩
       ·rw [if_neg c40] at H
        have da : ((ak.length : Int) == 0) = false := beq_eq_false_iff_ne.mpr c40
        have eM : ((ak.length : Int) != 0) = true := bne_iff_ne.mpr c40
        have fD : ¬ (ak = []) := fun h_ => c40 (by rw [h_]; rfl)
        (first | rw [da] | (simp only [i64_w, i32_w]; rw [da]) | skip)
        have H' := Aside0.mk H
        clear H
        go_wp2
        go_meet
        case rel => exact ⟨_, ((-1)), (by first | rfl | (simp; done) | (simp [*]; done)), H', ⟨by have := HJ9.out; first | omega | exact Nat.le_refl _⟩, ⟨rT ab.out⟩, ⟨rT aa.out⟩, ⟨bT ae.out⟩, ⟨bT ai.out⟩, ⟨eT HB.out⟩⟩
      case rest =>
       clear fN
       try clear c1
       try clear c2
       try clear p2
       try clear c3
       try clear c4
       try clear c6
       try clear c7
       try clear c8
       try clear c10
       try clear c13
       try clear c17
       try clear c20
       try clear c33
       try clear c9
       try clear eC
       try clear c34
       try clear c38
       try clear c40
       try clear da
       try clear eM
       try clear fD
       try clear dk
       try clear dl
       try clear dm
       try clear dn
       try clear du
       try clear dv
       try clear dw
       try clear dx
       try clear dC
       try clear dD
       try clear dE
       try clear dF
       try clear dK
       try clear dL
       try clear dM
       try clear dN
       try clear dT
       try clear dU
       try clear dV
       try clear dW
       try clear d1
       try clear d2
       try clear d3
       try clear d4
       try clear d9
       try clear d_
       try clear ea
       try clear eb
       try clear eD
       try clear eE
       try clear eF
       try clear eG
       try clear dp
       try clear dq
       try clear dr
       try clear dt
       try clear dy
       try clear dz
       try clear dA
       try clear dB
       try clear dG
       try clear dH
       try clear dI
       try clear dJ
       try clear dP
       try clear dQ
       try clear dR
       try clear dS
       try clear dX
       try clear dY
       try clear dZ
       try clear d0
       try clear d5
       try clear d6
       try clear d7
       try clear d8
       try clear ec
       try clear ed
       try clear ee
       try clear ef
       try clear eH
       try clear eI
       try clear eJ
       try clear eK
       try clear p2
       obtain ⟨kq, bv, rfl, HA, fZ, ab, aa, ae, ai, HB⟩ := hcut
       cases kq with
       | zero => exact absurd HA.out (by simp [IVS.j1])
       | succ kj36 =>
        have H := HA.out
        clear HA
        simp only [IVS.j1] at H
        replace H := Option.bind_eq_some_iff.mp H
        obtain ⟨⟨cj, ck⟩, f0, H⟩ := H
        replace H : (if 1 + ao.size ≤ 9223372036854775807 then ((version_Join.f kj36 al an ((⟨#[49]⟩ : ByteArray) ++ ao) ap).bind fun bt249 => ((version_Cmp.f kj36 cB bt249.1).bind fun bt251 => (if ao.toList = ([48] : List UInt8) then ((version_Join.f kj36 al an (⟨#[55]⟩ : ByteArray) ap).bind fun bt253 => ((version_Cmp.f kj36 cB bt253.1).bind fun bt255 => (IVS.j2 kj36 a2 bv cj ck bt253.2 bt255.1 bt255.2 al an ao ak))) else (IVS.j2 kj36 a2 bv cj ck bt249.2 bt251.1 bt251.2 al an ao ak)))) else (none)) = some r := H
        have A41 := Aside0.mk f0
        clear f0
        by_cases c42 : 1 + ao.size ≤ 9223372036854775807
        ·skip
         rw [if_pos c42] at H
         have f1 := eq_true c42
         have f2 : decide (1 + ao.size ≤ 9223372036854775807) = true := decide_eq_true c42
         try have f3 : (9223372036854775807 < 1 + ao.size) = False := eq_false (Nat.not_lt.2 c42)
         replace H := Option.bind_eq_some_iff.mp H
         obtain ⟨⟨eO, eP⟩, f4, H⟩ := H
         replace H : ((version_Cmp.f kj36 cB eO).bind fun bt251 => (if ao.toList = ([48] : List UInt8) then ((version_Join.f kj36 al an (⟨#[55]⟩ : ByteArray) ap).bind fun bt253 => ((version_Cmp.f kj36 cB bt253.1).bind fun bt255 => (IVS.j2 kj36 a2 bv cj ck bt253.2 bt255.1 bt255.2 al an ao ak))) else (IVS.j2 kj36 a2 bv cj ck eP bt251.1 bt251.2 al an ao ak))) = some r := H
         have A43 := Aside0.mk f4
         clear f4
         replace H := Option.bind_eq_some_iff.mp H
         obtain ⟨⟨fO, fP⟩, f5, H⟩ := H
         replace H : (if ao.toList = ([48] : List UInt8) then ((version_Join.f kj36 al an (⟨#[55]⟩ : ByteArray) ap).bind fun bt253 => ((version_Cmp.f kj36 cB bt253.1).bind fun bt255 => (IVS.j2 kj36 a2 bv cj ck bt253.2 bt255.1 bt255.2 al an ao ak))) else (IVS.j2 kj36 a2 bv cj ck eP fO fP al an ao ak)) = some r := H
         have A44 := Aside0.mk f5
         clear f5
         have fQ := Aside0.mk H
         clear H
         try go_wp2_with (first | ((with_reducible refine gate_callee (f := 11) rfl ?_); refine gL (some 65) Tryd.func11 #[.string cB, .string dj] ?_; (with_reducible refine (version_Cmp.calls kj36 cB dj cj ck _ A41.out).mono ?_); rintro e w46 ⟨rfl, hb⟩; refine ⟨_, rfl, ?_⟩; replace ab := am (rB ab.out hb); replace aa := am (rB aa.out hb); replace ae := am (bB ae.out hb); replace ai := am (bB ai.out hb); replace HB := am (sT HB.out hb); (try clear hb); (try clear hb2); (try clear hk); (try clear hi); have ja := ce.out; have jb := c0.out; have eQ : w46.cell? ⟨aK, 0, none⟩ = some (.string al) := cT ae 0; have eR : w46.cell? ⟨aK, 1, none⟩ = some (.string an) := cT ae 1; have eS : w46.cell? ⟨aK, 2, none⟩ = some (.string ao) := cT ae 2; have eV : w46.cell? ⟨aK, 3, none⟩ = some (.slice aA ak.length az) := cT ae 3; have eW := blk_frozen ae.out 0; have eX := blk_frozen ae.out 1; have eY := blk_frozen ae.out 2; have eZ := blk_frozen ae.out 3) | ((with_reducible refine gate_dst (N := 15) rfl ?_); refine box_event ?hg (N := 15) ?hd (cs := #[.string (⟨#[]⟩ : ByteArray), .string (⟨#[]⟩ : ByteArray), .string (⟨#[]⟩ : ByteArray), .slice none 0 0]) (t := 36) ?hr ?_; (case hd => rfl); (case hg => rfl); (case hr => first | (go_simp; done) | (go_simp; rfl)); intro aE hg w49 hbox hb; replace ab := am (rB ab.out hb); replace aa := am (rB aa.out hb); have aj := am (hbox); have jc := am ((gT hg HB.out)); have jd := am ((gT hg HB.out)); have a9 := am ((nT ae.out hg)); have cM := am ((mT ae.out hg)); have a_ := am ((nT ai.out hg)); have cN := am ((mT ai.out hg)); replace ae := am (bB ae.out hb); replace ai := am (bB ai.out hb); replace HB := am (sT HB.out hb); clear hb hbox hg; have je := cM.out; have jf := a9.out; have jg := cN.out; have jh := a_.out; have e0 : w49.cell? ⟨aE, 0, none⟩ = some (.string (⟨#[]⟩ : ByteArray)) := cT aj 0; have e1 : w49.cell? ⟨aE, 1, none⟩ = some (.string (⟨#[]⟩ : ByteArray)) := cT aj 1; have e2 : w49.cell? ⟨aE, 2, none⟩ = some (.string (⟨#[]⟩ : ByteArray)) := cT aj 2; have e4 : w49.cell? ⟨aE, 3, none⟩ = some (.slice none 0 0) := cT aj 3; have e5 := blk_frozen aj.out 0; have e6 := blk_frozen aj.out 1; have e7 := blk_frozen aj.out 2; have e8 := blk_frozen aj.out 3))
         have n0_ : Aside0 (Kd.R Kd.string 9 ((((w49.setCell ⟨aE, 0, none⟩ (.string al)).setCell ⟨aE, 1, none⟩ (.string an)).setCell ⟨aE, 2, none⟩ (.string ao)).setCell ⟨aE, 3, none⟩ (.slice aA ak.length az)) w.heap.size (fun k_ => some k_ ≠ (.slice aD ap.length aC : Value).ownBlock) (.slice aA ak.length az) ak) := ⟨by (with_reducible repeat (first | apply Kd.R_alloc | apply Kd.R_drewN | apply Kd.R_drew)); exact Kd.R_mono (Kd.R_far (p := ⟨aE, 3, none⟩) (Kd.R_far (p := ⟨aE, 2, none⟩) (Kd.R_far (p := ⟨aE, 1, none⟩) (Kd.R_far (p := ⟨aE, 0, none⟩) (Kd.R_types ab.out aj.out (by decide)) (fun _ hk => hk.2) (.string al)) (fun _ hk => hk.2) (.string an)) (fun _ hk => hk.2) (.string ao)) (fun _ hk => hk.2) (.slice aA ak.length az)) (fun _ hk => hk.1)⟩
         have n1_ : Aside0 (Kd.R Kd.string 9 ((((w49.setCell ⟨aE, 0, none⟩ (.string al)).setCell ⟨aE, 1, none⟩ (.string an)).setCell ⟨aE, 2, none⟩ (.string ao)).setCell ⟨aE, 3, none⟩ (.slice aA ak.length az)) w.heap.size (fun k_ => some k_ ≠ (.slice aA ak.length az : Value).ownBlock) (.slice aD ap.length aC) ap) := ⟨by (with_reducible repeat (first | apply Kd.R_alloc | apply Kd.R_drewN | apply Kd.R_drew)); exact Kd.R_mono (Kd.R_far (p := ⟨aE, 3, none⟩) (Kd.R_far (p := ⟨aE, 2, none⟩) (Kd.R_far (p := ⟨aE, 1, none⟩) (Kd.R_far (p := ⟨aE, 0, none⟩) (Kd.R_types aa.out aj.out (by decide)) (fun _ hk => hk.2) (.string al)) (fun _ hk => hk.2) (.string an)) (fun _ hk => hk.2) (.string ao)) (fun _ hk => hk.2) (.slice aA ak.length az)) (fun _ hk => hk.1)⟩
         have n2_ : Aside0 (((((w49.setCell ⟨aE, 0, none⟩ (.string al)).setCell ⟨aE, 1, none⟩ (.string an)).setCell ⟨aE, 2, none⟩ (.string ao)).setCell ⟨aE, 3, none⟩ (.slice aA ak.length az)).heap[aK]? = some (.cells #[.string al, .string an, .string ao, .slice aA ak.length az] 36 (0, 0))) := ⟨by (with_reducible repeat (first | apply bn | apply bd | apply ba)); refine blk_far ?_ a9.out _; (with_reducible repeat (first | apply bn | apply bd | apply ba)); refine blk_far ?_ a9.out _; (with_reducible repeat (first | apply bn | apply bd | apply ba)); refine blk_far ?_ a9.out _; (with_reducible repeat (first | apply bn | apply bd | apply ba)); refine blk_far ?_ a9.out _; exact bT ae.out⟩
         have n3_ : Aside0 (((((w49.setCell ⟨aE, 0, none⟩ (.string al)).setCell ⟨aE, 1, none⟩ (.string an)).setCell ⟨aE, 2, none⟩ (.string ao)).setCell ⟨aE, 3, none⟩ (.slice aA ak.length az)).heap[aZ]? = some (.cells #[.string al, .string an, .string ao, .slice aD ap.length aC] 36 (0, 0))) := ⟨by (with_reducible repeat (first | apply bn | apply bd | apply ba)); refine blk_far ?_ a_.out _; (with_reducible repeat (first | apply bn | apply bd | apply ba)); refine blk_far ?_ a_.out _; (with_reducible repeat (first | apply bn | apply bd | apply ba)); refine blk_far ?_ a_.out _; (with_reducible repeat (first | apply bn | apply bd | apply ba)); refine blk_far ?_ a_.out _; exact bT ai.out⟩
         have n4_ : Aside0 (((((w49.setCell ⟨aE, 0, none⟩ (.string al)).setCell ⟨aE, 1, none⟩ (.string an)).setCell ⟨aE, 2, none⟩ (.string ao)).setCell ⟨aE, 3, none⟩ (.slice aA ak.length az)).heap[aE]? = some (.cells #[.string al, .string an, .string ao, .slice aA ak.length az] 36 (0, 0))) := ⟨by (with_reducible repeat (first | apply bn | apply bd | apply ba)); refine blk_put (cs := #[.string al, .string an, .string ao, .slice none 0 0]) ?_ 3 _ rfl; (with_reducible repeat (first | apply bn | apply bd | apply ba)); refine blk_put (cs := #[.string al, .string an, .string (⟨#[]⟩ : ByteArray), .slice none 0 0]) ?_ 2 _ rfl; (with_reducible repeat (first | apply bn | apply bd | apply ba)); refine blk_put (cs := #[.string al, .string (⟨#[]⟩ : ByteArray), .string (⟨#[]⟩ : ByteArray), .slice none 0 0]) ?_ 1 _ rfl; (with_reducible repeat (first | apply bn | apply bd | apply ba)); refine blk_put (cs := #[.string (⟨#[]⟩ : ByteArray), .string (⟨#[]⟩ : ByteArray), .string (⟨#[]⟩ : ByteArray), .slice none 0 0]) ?_ 0 _ rfl; exact bT aj.out⟩
         have n5_ : Aside0 (Below w.heap.size w ((((w49.setCell ⟨aE, 0, none⟩ (.string al)).setCell ⟨aE, 1, none⟩ (.string an)).setCell ⟨aE, 2, none⟩ (.string ao)).setCell ⟨aE, 3, none⟩ (.slice aA ak.length az))) := ⟨by repeat (first | (with_reducible first | exact HB.out | apply pA | apply pN | apply pD | refine eU ?_ (by assumption)) | exact HB.out)⟩
         (try clear ab)
         (try clear aa)
         (try clear ae)
         (try clear ai)
         (try clear aj)
         (try clear HB)
         generalize ((((w49.setCell ⟨aE, 0, none⟩ (.string al)).setCell ⟨aE, 1, none⟩ (.string an)).setCell ⟨aE, 2, none⟩ (.string ao)).setCell ⟨aE, 3, none⟩ (.slice aA ak.length az)) = w53 at n0_ n1_ n2_ n3_ n4_ n5_ ⊢
         have ab := n0_
         have aa := n1_
         have ae := n2_
         have ai := n3_
         have aj := n4_
         have HB := n5_
         clear n0_ n1_ n2_ n3_ n4_ n5_
         replace ab := am (Kd.R_drew ab.out)
         replace aa := am (Kd.R_drew aa.out)
         replace ae := am (blk_drew ae.out)
         replace ai := am (blk_drew ai.out)
         replace aj := am (blk_drew aj.out)
         replace HB := am (below_drew1 HB.out)
         refine start_ (n := 9) (S := fun w' => w'.cell? ⟨aK, 0, none⟩ = some (.string al) ∧ w'.cell? ⟨aK, 1, none⟩ = some (.string an) ∧ w'.cell? ⟨aK, 2, none⟩ = some (.string ao) ∧ w'.cell? ⟨aK, 3, none⟩ = some (.slice aA ak.length az) ∧ w'.cell? ⟨aZ, 0, none⟩ = some (.string al) ∧ w'.cell? ⟨aZ, 1, none⟩ = some (.string an) ∧ w'.cell? ⟨aZ, 2, none⟩ = some (.string ao) ∧ w'.cell? ⟨aZ, 3, none⟩ = some (.slice aD ap.length aC)) (ds := []) (bA 9 0) (by kernel_rfl) rfl (by kernel_rfl) ⟨cT ae 0, cT ae 1, cT ae 2, cT ae 3, cT ai 0, cT ai 1, cT ai 2, cT ai 3⟩ (fun hHeld => ?_); refine with_tabW IVS.tab13 IVS.bits13 (fun HT_ HW_ => ?_)
         generalize w53.drew = w54 at ab aa ae ai aj HB hHeld ⊢
         refine pT 0 69 (bA 9 1) HT_.out ?_
         refine pT 3 72 (bA 9 9) HT_.out ?_
         refine tT 1 70 (bA 9 11) HT_.out HW_.out hHeld ?_ (hy := by rintro w' ⟨s0, s1, s2, s3, s4, s5, s6, s7⟩; go_simp; with_reducible rfl)
         refine pT 2 71 (bA 9 15) HT_.out ?_
         refine pT 5 74 (bA 9 47) HT_.out ?_
         refine tT 4 73 (bA 9 63) HT_.out HW_.out hHeld ?_ (hy := by rintro w' ⟨s0, s1, s2, s3, s4, s5, s6, s7⟩; go_simp; with_reducible rfl)
         refine oT 6 (bA 9 127) HT_.out fun K hK => ?_
         have jA : w54.cell? ⟨aE, 2, none⟩ = some (.string ao) := cT aj 2
         have ji := blk_frozen aj.out 2
         have hj := a9.out
         have hl := a_.out
         have hm := cM.out
         have hn := cN.out
         refine skip_ (w1 := ?_) (by rfl) rfl ?_ ?_
         rotate_left
         ·go_simp
          rfl
         refine hK.out _ _ ⟨((cell_far (p := ⟨aE, _, none⟩) a9.out _).trans (hHeld.1)), ((cell_far (p := ⟨aE, _, none⟩) a9.out _).trans (hHeld.2.1)), ((cell_far (p := ⟨aE, _, none⟩) a9.out _).trans (hHeld.2.2.1)), ((cell_far (p := ⟨aE, _, none⟩) a9.out _).trans (hHeld.2.2.2.1)), ((cell_far (p := ⟨aE, _, none⟩) a_.out _).trans (hHeld.2.2.2.2.1)), ((cell_far (p := ⟨aE, _, none⟩) a_.out _).trans (hHeld.2.2.2.2.2.1)), ((cell_far (p := ⟨aE, _, none⟩) a_.out _).trans (hHeld.2.2.2.2.2.2.1)), ((cell_far (p := ⟨aE, _, none⟩) a_.out _).trans (hHeld.2.2.2.2.2.2.2))⟩ (fun hHeld => ?_)
         clear hK K
         refine pT 7 75 (bA 9 255) HT_.out ?_
         refine oT 8 (bA 9 511) HT_.out fun K hK => ?_
         have jB : w54.cell? ⟨aE, 3, none⟩ = some (.slice aA ak.length az) := cT aj 3
         have jj := blk_frozen aj.out 3
         have hq := a9.out
         have hs := a_.out
         have ht := cM.out
         have hu := cN.out
         refine skip_ (w1 := ?_) (by rfl) rfl ?_ ?_
         rotate_left
         ·go_simp
          rfl
         refine hK.out _ _ ⟨((cell_far (p := ⟨aE, _, none⟩) a9.out _).trans (hHeld.1)), ((cell_far (p := ⟨aE, _, none⟩) a9.out _).trans (hHeld.2.1)), ((cell_far (p := ⟨aE, _, none⟩) a9.out _).trans (hHeld.2.2.1)), ((cell_far (p := ⟨aE, _, none⟩) a9.out _).trans (hHeld.2.2.2.1)), ((cell_far (p := ⟨aE, _, none⟩) a_.out _).trans (hHeld.2.2.2.2.1)), ((cell_far (p := ⟨aE, _, none⟩) a_.out _).trans (hHeld.2.2.2.2.2.1)), ((cell_far (p := ⟨aE, _, none⟩) a_.out _).trans (hHeld.2.2.2.2.2.2.1)), ((cell_far (p := ⟨aE, _, none⟩) a_.out _).trans (hHeld.2.2.2.2.2.2.2))⟩ (fun hHeld => ?_)
         clear hK K
         refine done_ (done_of HT_.out (by kernel_rfl)) ?_
         have e9 : w54.cell? ⟨aE, 0, none⟩ = some (.string al) := cT aj 0
         have e_ : w54.cell? ⟨aE, 1, none⟩ = some (.string an) := cT aj 1
         have fa : w54.cell? ⟨aE, 2, none⟩ = some (.string ao) := cT aj 2
         have fb : w54.cell? ⟨aE, 3, none⟩ = some (.slice aA ak.length az) := cT aj 3
         have fc := blk_frozen aj.out 0
         have fd := blk_frozen aj.out 1
         have fe := blk_frozen aj.out 2
         have ff := blk_frozen aj.out 3
         go_upto_if 89 with (first | ((with_reducible refine gate_callee (f := 20) rfl ?_); refine gL (some 78) Tryd.func20 #[.agg #[.string al, .string an, .string ((⟨#[49]⟩ : ByteArray) ++ ao), .slice aD ap.length aC]] ?_; (with_reducible refine (version_Join.calls kj36 al an ((⟨#[49]⟩ : ByteArray) ++ ao) _ _ ap eO eP _ ?side1 ?side2 A43.out).mono ?_); (case side1 => refine (Kd.R_reads' (e := 9) (base := w.heap.size) (ok := fun k_ => some k_ ≠ (.slice aA ak.length az : Value).ownBlock) (n := ap.length) (c := aC) ?_).2.2; exact (by (with_reducible repeat (first | apply Kd.R_alloc | apply Kd.R_drewN | apply Kd.R_drew)); exact (Kd.R_mono (Kd.R_far (p := ⟨aE, 3, none⟩) (Kd.R_far (p := ⟨aE, 2, none⟩) (Kd.R_types aa.out aj.out (by decide)) (fun _ hk => hk.2) (.string ((⟨#[49]⟩ : ByteArray) ++ ao))) (fun _ hk => hk.2) (.slice aD ap.length aC)) (fun _ h_ => h_.1)))); (case side2 => exact (Kd.R_reads' aa.out).2.1); rintro e w58 ⟨rfl, hb⟩; refine ⟨_, rfl, ?_⟩; replace ab := am (Kd.R_below (by (with_reducible repeat (first | apply Kd.R_alloc | apply Kd.R_drewN | apply Kd.R_drew)); exact (Kd.R_mono (Kd.R_far (p := ⟨aE, 3, none⟩) (Kd.R_far (p := ⟨aE, 2, none⟩) (Kd.R_types ab.out aj.out (by decide)) (fun _ hk => hk.2) (.string ((⟨#[49]⟩ : ByteArray) ++ ao))) (fun _ hk => hk.2) (.slice aD ap.length aC)) (fun _ h_ => h_.1))) hb); replace aa := am (Kd.R_below (by (with_reducible repeat (first | apply Kd.R_alloc | apply Kd.R_drewN | apply Kd.R_drew)); exact (Kd.R_mono (Kd.R_far (p := ⟨aE, 3, none⟩) (Kd.R_far (p := ⟨aE, 2, none⟩) (Kd.R_types aa.out aj.out (by decide)) (fun _ hk => hk.2) (.string ((⟨#[49]⟩ : ByteArray) ++ ao))) (fun _ hk => hk.2) (.slice aD ap.length aC)) (fun _ h_ => h_.1))) hb); replace ae := am (blk_below (g := aK) (o := .cells #[.string al, .string an, .string ao, .slice aA ak.length az] 36 (0, 0)) (by (with_reducible repeat (first | apply bn | apply bd | apply ba)); refine blk_far ?_ a9.out _; (with_reducible repeat (first | apply bn | apply bd | apply ba)); refine blk_far ?_ a9.out _; exact bT ae.out) hb); replace ai := am (blk_below (g := aZ) (o := .cells #[.string al, .string an, .string ao, .slice aD ap.length aC] 36 (0, 0)) (by (with_reducible repeat (first | apply bn | apply bd | apply ba)); refine blk_far ?_ a_.out _; (with_reducible repeat (first | apply bn | apply bd | apply ba)); refine blk_far ?_ a_.out _; exact bT ai.out) hb); replace HB := am (below_step (by repeat (first | (with_reducible first | exact HB.out | apply pA | apply pN | apply pD | refine eU ?_ (by assumption)) | exact HB.out)) hb); replace aj := am (blk_below (g := aE) (o := .cells #[.string al, .string an, .string ((⟨#[49]⟩ : ByteArray) ++ ao), .slice aD ap.length aC] 36 (0, 0)) (by (with_reducible repeat (first | apply bn | apply bd | apply ba)); refine blk_put (cs := #[.string al, .string an, .string ((⟨#[49]⟩ : ByteArray) ++ ao), .slice aA ak.length az]) ?_ 3 _ rfl; (with_reducible repeat (first | apply bn | apply bd | apply ba)); refine blk_put (cs := #[.string al, .string an, .string ao, .slice aA ak.length az]) ?_ 2 _ rfl; exact bT aj.out) hb); (try clear hb); (try clear hb2); (try clear hk); (try clear hi)) | ((with_reducible refine gate_callee (f := 11) rfl ?_); refine gL (some 84) Tryd.func11 #[.string cB, .string eO] ?_; (with_reducible refine (version_Cmp.calls kj36 cB eO fO fP _ A44.out).mono ?_); rintro e w59 ⟨rfl, hb⟩; refine ⟨_, rfl, ?_⟩; replace ab := am (rB ab.out hb); replace aa := am (rB aa.out hb); replace ae := am (bB ae.out hb); replace ai := am (bB ai.out hb); replace aj := am (bB aj.out hb); replace HB := am (below_step (by repeat (first | (with_reducible first | exact HB.out | apply pA | apply pN | apply pD | refine eU ?_ (by assumption)) | exact HB.out)) hb); (try clear hb); (try clear hb2); (try clear hk); (try clear hi); have fg : w59.cell? ⟨aK, 0, none⟩ = some (.string al) := cT ae 0; have fh : w59.cell? ⟨aK, 1, none⟩ = some (.string an) := cT ae 1; have fi : w59.cell? ⟨aK, 2, none⟩ = some (.string ao) := cT ae 2; have fj : w59.cell? ⟨aK, 3, none⟩ = some (.slice aA ak.length az) := cT ae 3; have fk := blk_frozen ae.out 0; have fl := blk_frozen ae.out 1; have fm := blk_frozen ae.out 2; have fn := blk_frozen ae.out 3))
         (try simp only [Act.put, List.setIfInBounds_toArray, List.set_cons_zero, List.set_cons_succ])
         go_cut [17, 18, 19] (fun v17 v18 v19 wc => ∃ (kq : Nat) (bW : Int) (bX : Int) (bZ : Int) (b4 : ByteArray), v17 = .int .i64 bW ∧ v18 = .int .i64 bX ∧ v19 = .int .i64 bZ ∧ Aside0 (IVS.j2 kq a2 bv cj ck bW bX bZ al an ao ak = some r) ∧ Aside0 (kq ≤ kj36) ∧ Aside0 (Kd.R Kd.string 9 wc w.heap.size (fun k_ => some k_ ≠ ((.slice aD ap.length aC) : Value).ownBlock ∧ some k_ ≠ ((.slice aD ap.length aC) : Value).ownBlock) (.slice aA ak.length az) ak) ∧ Aside0 (Kd.R Kd.string 9 wc w.heap.size (fun k_ => some k_ ≠ ((.slice aA ak.length az) : Value).ownBlock) (.slice aD ap.length aC) ap) ∧ Aside0 (Kd.R Kd.string 9 wc w.heap.size (fun k_ => some k_ ≠ ((.slice aA ak.length az) : Value).ownBlock) (.slice aD ap.length aC) ap) ∧ Aside0 (wc.heap[aK]? = some (.cells #[.string al, .string an, .string ao, (.slice aA ak.length az)] 36 (0, 0))) ∧ Aside0 (wc.heap[aZ]? = some (.cells #[.string al, .string an, .string ao, (.slice aD ap.length aC)] 36 (0, 0))) ∧ Aside0 (wc.heap[aE]? = some (.cells #[.string al, .string an, .string b4, (.slice aD ap.length aC)] 36 (0, 0))) ∧ Aside0 (Below w.heap.size w wc))
         case first =>
          have H := fQ.out
          clear fQ
          by_cases c61 : ao.toList = ([48] : List UInt8)
          ·rw [if_pos c61] at H
           have db : (ao.toList == ([48] : List UInt8)) = true := beq_iff_eq.mpr c61
           have fE : (ao.toList != ([48] : List UInt8)) = false := bne_eq_false_iff_eq.mpr c61
           clear c61
           (first | rw [db] | (simp only [i64_w, i32_w]; rw [db]) | skip)
           replace H := Option.bind_eq_some_iff.mp H
           obtain ⟨⟨fo, fp⟩, f6, H⟩ := H
           replace H : ((version_Cmp.f kj36 cB fo).bind fun bt255 => (IVS.j2 kj36 a2 bv cj ck fp bt255.1 bt255.2 al an ao ak)) = some r := H
           have A62 := Aside0.mk f6
           clear f6
           replace H := Option.bind_eq_some_iff.mp H
           obtain ⟨⟨fR, fS⟩, f7, H⟩ := H
           replace H : (IVS.j2 kj36 a2 bv cj ck fp fR fS al an ao ak) = some r := H
           have A63 := Aside0.mk f7
           clear f7
           have H' := Aside0.mk H
           clear H
           have jk := cM.out
           have jl := a9.out
           have jm := cN.out
           have jn := a_.out
           have fq : w59.cell? ⟨aE, 0, none⟩ = some (.string al) := cT aj 0
           have fr : w59.cell? ⟨aE, 1, none⟩ = some (.string an) := cT aj 1
           have fs : w59.cell? ⟨aE, 2, none⟩ = some (.string ((⟨#[49]⟩ : ByteArray) ++ ao)) := cT aj 2
           have ft : w59.cell? ⟨aE, 3, none⟩ = some (.slice aD ap.length aC) := cT aj 3
           have fu := blk_frozen aj.out 0
           have fv := blk_frozen aj.out 1
           have fw := blk_frozen aj.out 2
           have fx := blk_frozen aj.out 3
           go_wp2_with (first | ((with_reducible refine gate_callee (f := 20) rfl ?_); refine gL (some 93) Tryd.func20 #[.agg #[.string al, .string an, .string (⟨#[55]⟩ : ByteArray), .slice aD ap.length aC]] ?_; (with_reducible refine (version_Join.calls kj36 al an (⟨#[55]⟩ : ByteArray) _ _ ap fo fp _ ?side1 ?side2 A62.out).mono ?_); (case side1 => refine (Kd.R_reads' (e := 9) (base := w.heap.size) (ok := fun k_ => some k_ ≠ (.slice aA ak.length az : Value).ownBlock) (n := ap.length) (c := aC) ?_).2.2; exact (by (with_reducible repeat (first | apply Kd.R_alloc | apply Kd.R_drewN | apply Kd.R_drew)); exact (Kd.R_mono (Kd.R_far (p := ⟨aE, 2, none⟩) (Kd.R_types aa.out aj.out (by decide)) (fun _ hk => hk.2) (.string (⟨#[55]⟩ : ByteArray))) (fun _ h_ => h_.1)))); (case side2 => exact (Kd.R_reads' aa.out).2.1); rintro e w67 ⟨rfl, hb⟩; refine ⟨_, rfl, ?_⟩; replace ab := am (Kd.R_below (by (with_reducible repeat (first | apply Kd.R_alloc | apply Kd.R_drewN | apply Kd.R_drew)); exact (Kd.R_mono (Kd.R_far (p := ⟨aE, 2, none⟩) (Kd.R_types ab.out aj.out (by decide)) (fun _ hk => hk.2) (.string (⟨#[55]⟩ : ByteArray))) (fun _ h_ => h_.1))) hb); replace aa := am (Kd.R_below (by (with_reducible repeat (first | apply Kd.R_alloc | apply Kd.R_drewN | apply Kd.R_drew)); exact (Kd.R_mono (Kd.R_far (p := ⟨aE, 2, none⟩) (Kd.R_types aa.out aj.out (by decide)) (fun _ hk => hk.2) (.string (⟨#[55]⟩ : ByteArray))) (fun _ h_ => h_.1))) hb); replace ae := am (blk_below (g := aK) (o := .cells #[.string al, .string an, .string ao, .slice aA ak.length az] 36 (0, 0)) (by (with_reducible repeat (first | apply bn | apply bd | apply ba)); refine blk_far ?_ a9.out _; exact bT ae.out) hb); replace ai := am (blk_below (g := aZ) (o := .cells #[.string al, .string an, .string ao, .slice aD ap.length aC] 36 (0, 0)) (by (with_reducible repeat (first | apply bn | apply bd | apply ba)); refine blk_far ?_ a_.out _; exact bT ai.out) hb); replace HB := am (below_step (by repeat (first | (with_reducible first | exact HB.out | apply pA | apply pN | apply pD | refine eU ?_ (by assumption)) | exact HB.out)) hb); replace aj := am (blk_below (g := aE) (o := .cells #[.string al, .string an, .string (⟨#[55]⟩ : ByteArray), .slice aD ap.length aC] 36 (0, 0)) (by (with_reducible repeat (first | apply bn | apply bd | apply ba)); refine blk_put (cs := #[.string al, .string an, .string ((⟨#[49]⟩ : ByteArray) ++ ao), .slice aD ap.length aC]) ?_ 2 _ rfl; exact bT aj.out) hb); (try clear hb); (try clear hb2); (try clear hk); (try clear hi)) | ((with_reducible refine gate_callee (f := 11) rfl ?_); refine gL (some 99) Tryd.func11 #[.string cB, .string fo] ?_; (with_reducible refine (version_Cmp.calls kj36 cB fo fR fS _ A63.out).mono ?_); rintro e w68 ⟨rfl, hb⟩; refine ⟨_, rfl, ?_⟩; replace ab := am (rB ab.out hb); replace aa := am (rB aa.out hb); replace ae := am (bB ae.out hb); replace ai := am (bB ai.out hb); replace aj := am (bB aj.out hb); replace HB := am (below_step (by repeat (first | (with_reducible first | exact HB.out | apply pA | apply pN | apply pD | refine eU ?_ (by assumption)) | exact HB.out)) hb); (try clear hb); (try clear hb2); (try clear hk); (try clear hi)))
           go_meet
           case rel => exact ⟨_, (fp), (fR), (fS), ((⟨#[55]⟩ : ByteArray)), (by first | rfl | (simp; done) | (simp [*]; done)), (by first | rfl | (simp; done) | (simp [*]; done)), (by first | rfl | (simp; done) | (simp [*]; done)), H', ⟨by have := HJ9.out; have := fZ.out; first | omega | exact Nat.le_refl _⟩, ⟨by (with_reducible repeat (first | apply Kd.R_alloc | apply Kd.R_drewN | apply Kd.R_drew)); exact Kd.R_mono ab.out (fun _ hk => ⟨hk, hk⟩)⟩, ⟨rT aa.out⟩, ⟨rT aa.out⟩, ⟨bT ae.out⟩, ⟨bT ai.out⟩, ⟨bT aj.out⟩, ⟨eT HB.out⟩⟩
          ·rw [if_neg c61] at H
           have db : (ao.toList == ([48] : List UInt8)) = false := beq_eq_false_iff_ne.mpr c61
           have fE : (ao.toList != ([48] : List UInt8)) = true := bne_iff_ne.mpr c61
           (first | rw [db] | (simp only [i64_w, i32_w]; rw [db]) | skip)
           have H' := Aside0.mk H
           clear H
           go_wp2
           go_meet
           case rel => exact ⟨_, (eP), (fO), (fP), ((⟨#[49]⟩ : ByteArray) ++ ao), (by first | rfl | (simp; done) | (simp [*]; done)), (by first | rfl | (simp; done) | (simp [*]; done)), (by first | rfl | (simp; done) | (simp [*]; done)), H', ⟨by have := HJ9.out; have := fZ.out; first | omega | exact Nat.le_refl _⟩, ⟨by (with_reducible repeat (first | apply Kd.R_alloc | apply Kd.R_drewN | apply Kd.R_drew)); exact Kd.R_mono ab.out (fun _ hk => ⟨hk, hk⟩)⟩, ⟨rT aa.out⟩, ⟨rT aa.out⟩, ⟨bT ae.out⟩, ⟨bT ai.out⟩, ⟨bT aj.out⟩, ⟨eT HB.out⟩⟩
         case rest =>
          clear fQ
          try clear c1
          try clear c2
          try clear p2
          try clear c3
          try clear c4
          try clear c5
          try clear c6
          try clear c7
          try clear c8
          try clear c10
          try clear c11
          try clear c13
          try clear c17
          try clear c20
          try clear c33
          try clear c9
          try clear eC
          try clear c34
          try clear c38
          try clear c40
          try clear da
          try clear eM
          try clear fD
          try clear c42
          try clear f1
          try clear f2
          try clear f3
          try clear c47
          try clear c50
          try clear c51
          try clear c61
          try clear db
          try clear fE
          try clear c64
          try clear c65
          try clear dk
          try clear dl
          try clear dm
          try clear dn
          try clear du
          try clear dv
          try clear dw
          try clear dx
          try clear dC
          try clear dD
          try clear dE
          try clear dF
          try clear dK
          try clear dL
          try clear dM
          try clear dN
          try clear dT
          try clear dU
          try clear dV
          try clear dW
          try clear d1
          try clear d2
          try clear d3
          try clear d4
          try clear d9
          try clear d_
          try clear ea
          try clear eb
          try clear eD
          try clear eE
          try clear eF
          try clear eG
          try clear eQ
          try clear eR
          try clear eS
          try clear eV
          try clear e0
          try clear e1
          try clear e2
          try clear e4
          try clear e9
          try clear e_
          try clear fa
          try clear fb
          try clear fg
          try clear fh
          try clear fi
          try clear fj
          try clear fq
          try clear fr
          try clear fs
          try clear ft
          try clear dp
          try clear dq
          try clear dr
          try clear dt
          try clear dy
          try clear dz
          try clear dA
          try clear dB
          try clear dG
          try clear dH
          try clear dI
          try clear dJ
          try clear dP
          try clear dQ
          try clear dR
          try clear dS
          try clear dX
          try clear dY
          try clear dZ
          try clear d0
          try clear d5
          try clear d6
          try clear d7
          try clear d8
          try clear ec
          try clear ed
          try clear ee
          try clear ef
          try clear eH
          try clear eI
          try clear eJ
          try clear eK
          try clear eW
          try clear eX
          try clear eY
          try clear eZ
          try clear e5
          try clear e6
          try clear e7
          try clear e8
          try clear fc
          try clear fd
          try clear fe
          try clear ff
          try clear fk
          try clear fl
          try clear fm
          try clear fn
          try clear fu
          try clear fv
          try clear fw
          try clear fx
          try clear p2
          obtain ⟨kq, bW, bX, bZ, b4, rfl, rfl, rfl, HA, jC, ab, aa, ac, ae, ai, aj, HB⟩ := hcut
          cases kq with
          | zero => exact absurd HA.out (by simp [IVS.j2])
          | succ kj44 =>
           have H := HA.out
           clear HA
           simp only [IVS.j2] at H
           obtain ⟨cW, en⟩ : ∃ y_ : List ByteArray, y_ = (([] : List ByteArray)) := ⟨_, rfl⟩
           replace H : (if cW.length + ak.length < 8796093022208 then ((some (cW ++ ak : List ByteArray)).bind fun cA => ((some (([strOfNums (([(49 + (Int.tmod a2 9)) % 256] : List Int))] : List ByteArray) : List ByteArray)).bind fun cp => (if cA.length + cp.length < 8796093022208 then ((some (([] : List ByteArray) : List ByteArray)).bind fun cd => (if cd.length + ak.length < 8796093022208 then ((some (cd ++ ak : List ByteArray)).bind fun cb => ((some (([strOfNums (([(97 + (Int.tmod a2 26)) % 256] : List Int))] : List ByteArray) : List ByteArray)).bind fun b1 => (if cb.length + b1.length < 8796093022208 then ((version_Join.f kj44 al an ao (cA ++ cp)).bind fun bt289 => ((version_Join.f kj44 al an ao (cb ++ b1)).bind fun bt291 => ((version_Cmp.f kj44 bt289.1 bt291.1).bind fun bt293 => (if cj = bv then (if ck = 0 then (if bW = 0 then (if bX = (-1) then (if bZ = 0 then (if bt289.2 = 0 then (if bt291.2 = 0 then (if bt293.1 = (-1) then (if bt293.2 = 0 then ((graftwoodlaw03_awake.f kj44).bind fun cf => (some cf)) else (some false)) else (some false)) else (some false)) else (some false)) else (some false)) else (some false)) else (some false)) else (some false)) else (some false))))) else (none)))) else (none))) else (none)))) else (none)) = some r := by first | (rw [en]; with_reducible exact H) | (have H2_ := (Option.bind_some _ _).symm.trans H; rw [en]; with_reducible exact H2_) | (have H2_ := (Option.bind_some _ _).symm.trans H; with_reducible exact H2_) | with_reducible exact H | (rw [en]; exact H) | exact H
           have Ny259 := Aside0.mk en
           clear en
           by_cases c69 : cW.length + ak.length < 8796093022208
           ·skip
            rw [if_pos c69] at H
            have LMc69 := Aside0.mk c69
            clear c69
            obtain ⟨cA, eo⟩ : ∃ y_ : List ByteArray, y_ = (cW ++ ak) := ⟨_, rfl⟩
            replace H : ((some (([strOfNums (([(49 + (Int.tmod a2 9)) % 256] : List Int))] : List ByteArray) : List ByteArray)).bind fun cp => (if cA.length + cp.length < 8796093022208 then ((some (([] : List ByteArray) : List ByteArray)).bind fun cd => (if cd.length + ak.length < 8796093022208 then ((some (cd ++ ak : List ByteArray)).bind fun cb => ((some (([strOfNums (([(97 + (Int.tmod a2 26)) % 256] : List Int))] : List ByteArray) : List ByteArray)).bind fun b1 => (if cb.length + b1.length < 8796093022208 then ((version_Join.f kj44 al an ao (cA ++ cp)).bind fun bt289 => ((version_Join.f kj44 al an ao (cb ++ b1)).bind fun bt291 => ((version_Cmp.f kj44 bt289.1 bt291.1).bind fun bt293 => (if cj = bv then (if ck = 0 then (if bW = 0 then (if bX = (-1) then (if bZ = 0 then (if bt289.2 = 0 then (if bt291.2 = 0 then (if bt293.1 = (-1) then (if bt293.2 = 0 then ((graftwoodlaw03_awake.f kj44).bind fun cf => (some cf)) else (some false)) else (some false)) else (some false)) else (some false)) else (some false)) else (some false)) else (some false)) else (some false)) else (some false))))) else (none)))) else (none))) else (none))) = some r := by first | (rw [eo]; with_reducible exact H) | (have H2_ := (Option.bind_some _ _).symm.trans H; rw [eo]; with_reducible exact H2_) | (have H2_ := (Option.bind_some _ _).symm.trans H; with_reducible exact H2_) | with_reducible exact H | (rw [eo]; exact H) | exact H
            have Ny262 := Aside0.mk eo
            clear eo
            obtain ⟨cJ, ep⟩ : ∃ y_ : List Int, y_ = (([(49 + (Int.tmod a2 9)) % 256] : List Int)) := ⟨_, rfl⟩
            replace H : ((some (([strOfNums cJ] : List ByteArray) : List ByteArray)).bind fun cp => (if cA.length + cp.length < 8796093022208 then ((some (([] : List ByteArray) : List ByteArray)).bind fun cd => (if cd.length + ak.length < 8796093022208 then ((some (cd ++ ak : List ByteArray)).bind fun cb => ((some (([strOfNums (([(97 + (Int.tmod a2 26)) % 256] : List Int))] : List ByteArray) : List ByteArray)).bind fun b1 => (if cb.length + b1.length < 8796093022208 then ((version_Join.f kj44 al an ao (cA ++ cp)).bind fun bt289 => ((version_Join.f kj44 al an ao (cb ++ b1)).bind fun bt291 => ((version_Cmp.f kj44 bt289.1 bt291.1).bind fun bt293 => (if cj = bv then (if ck = 0 then (if bW = 0 then (if bX = (-1) then (if bZ = 0 then (if bt289.2 = 0 then (if bt291.2 = 0 then (if bt293.1 = (-1) then (if bt293.2 = 0 then ((graftwoodlaw03_awake.f kj44).bind fun cf => (some cf)) else (some false)) else (some false)) else (some false)) else (some false)) else (some false)) else (some false)) else (some false)) else (some false)) else (some false))))) else (none)))) else (none))) else (none))) = some r := by first | (rw [ep]; with_reducible exact H) | (have H2_ := (Option.bind_some _ _).symm.trans H; rw [ep]; with_reducible exact H2_) | (have H2_ := (Option.bind_some _ _).symm.trans H; with_reducible exact H2_) | with_reducible exact H | (rw [ep]; exact H) | exact H
            have Ny265 := Aside0.mk ep
            clear ep
            obtain ⟨cp, eq⟩ : ∃ y_ : List ByteArray, y_ = (([strOfNums cJ] : List ByteArray)) := ⟨_, rfl⟩
            replace H : (if cA.length + cp.length < 8796093022208 then ((some (([] : List ByteArray) : List ByteArray)).bind fun cd => (if cd.length + ak.length < 8796093022208 then ((some (cd ++ ak : List ByteArray)).bind fun cb => ((some (([strOfNums (([(97 + (Int.tmod a2 26)) % 256] : List Int))] : List ByteArray) : List ByteArray)).bind fun b1 => (if cb.length + b1.length < 8796093022208 then ((version_Join.f kj44 al an ao (cA ++ cp)).bind fun bt289 => ((version_Join.f kj44 al an ao (cb ++ b1)).bind fun bt291 => ((version_Cmp.f kj44 bt289.1 bt291.1).bind fun bt293 => (if cj = bv then (if ck = 0 then (if bW = 0 then (if bX = (-1) then (if bZ = 0 then (if bt289.2 = 0 then (if bt291.2 = 0 then (if bt293.1 = (-1) then (if bt293.2 = 0 then ((graftwoodlaw03_awake.f kj44).bind fun cf => (some cf)) else (some false)) else (some false)) else (some false)) else (some false)) else (some false)) else (some false)) else (some false)) else (some false)) else (some false))))) else (none)))) else (none))) else (none)) = some r := by first | (rw [eq]; with_reducible exact H) | (have H2_ := (Option.bind_some _ _).symm.trans H; rw [eq]; with_reducible exact H2_) | (have H2_ := (Option.bind_some _ _).symm.trans H; with_reducible exact H2_) | with_reducible exact H | (rw [eq]; exact H) | exact H
            have Ny268 := Aside0.mk eq
            clear eq
            by_cases c70 : cA.length + cp.length < 8796093022208
            ·skip
             rw [if_pos c70] at H
             have LMc70 := Aside0.mk c70
             clear c70
             obtain ⟨cy, er⟩ : ∃ y_ : List ByteArray, y_ = (cA ++ cp) := ⟨_, rfl⟩
             replace H : ((some (([] : List ByteArray) : List ByteArray)).bind fun cd => (if cd.length + ak.length < 8796093022208 then ((some (cd ++ ak : List ByteArray)).bind fun cb => ((some (([strOfNums (([(97 + (Int.tmod a2 26)) % 256] : List Int))] : List ByteArray) : List ByteArray)).bind fun b1 => (if cb.length + b1.length < 8796093022208 then ((version_Join.f kj44 al an ao cy).bind fun bt289 => ((version_Join.f kj44 al an ao (cb ++ b1)).bind fun bt291 => ((version_Cmp.f kj44 bt289.1 bt291.1).bind fun bt293 => (if cj = bv then (if ck = 0 then (if bW = 0 then (if bX = (-1) then (if bZ = 0 then (if bt289.2 = 0 then (if bt291.2 = 0 then (if bt293.1 = (-1) then (if bt293.2 = 0 then ((graftwoodlaw03_awake.f kj44).bind fun cf => (some cf)) else (some false)) else (some false)) else (some false)) else (some false)) else (some false)) else (some false)) else (some false)) else (some false)) else (some false))))) else (none)))) else (none))) = some r := by first | (rw [er]; with_reducible exact H) | (have H2_ := (Option.bind_some _ _).symm.trans H; rw [er]; with_reducible exact H2_) | (have H2_ := (Option.bind_some _ _).symm.trans H; with_reducible exact H2_) | with_reducible exact H | (rw [er]; exact H) | exact H
             have Ny271 := Aside0.mk er
             clear er
             obtain ⟨cd, es⟩ : ∃ y_ : List ByteArray, y_ = (([] : List ByteArray)) := ⟨_, rfl⟩
             replace H : (if cd.length + ak.length < 8796093022208 then ((some (cd ++ ak : List ByteArray)).bind fun cb => ((some (([strOfNums (([(97 + (Int.tmod a2 26)) % 256] : List Int))] : List ByteArray) : List ByteArray)).bind fun b1 => (if cb.length + b1.length < 8796093022208 then ((version_Join.f kj44 al an ao cy).bind fun bt289 => ((version_Join.f kj44 al an ao (cb ++ b1)).bind fun bt291 => ((version_Cmp.f kj44 bt289.1 bt291.1).bind fun bt293 => (if cj = bv then (if ck = 0 then (if bW = 0 then (if bX = (-1) then (if bZ = 0 then (if bt289.2 = 0 then (if bt291.2 = 0 then (if bt293.1 = (-1) then (if bt293.2 = 0 then ((graftwoodlaw03_awake.f kj44).bind fun cf => (some cf)) else (some false)) else (some false)) else (some false)) else (some false)) else (some false)) else (some false)) else (some false)) else (some false)) else (some false))))) else (none)))) else (none)) = some r := by first | (rw [es]; with_reducible exact H) | (have H2_ := (Option.bind_some _ _).symm.trans H; rw [es]; with_reducible exact H2_) | (have H2_ := (Option.bind_some _ _).symm.trans H; with_reducible exact H2_) | with_reducible exact H | (rw [es]; exact H) | exact H
             have Ny274 := Aside0.mk es
             clear es
             by_cases c71 : cd.length + ak.length < 8796093022208
             ·skip
              rw [if_pos c71] at H
              have LMc71 := Aside0.mk c71
              clear c71
              obtain ⟨cb, et⟩ : ∃ y_ : List ByteArray, y_ = (cd ++ ak) := ⟨_, rfl⟩
              replace H : ((some (([strOfNums (([(97 + (Int.tmod a2 26)) % 256] : List Int))] : List ByteArray) : List ByteArray)).bind fun b1 => (if cb.length + b1.length < 8796093022208 then ((version_Join.f kj44 al an ao cy).bind fun bt289 => ((version_Join.f kj44 al an ao (cb ++ b1)).bind fun bt291 => ((version_Cmp.f kj44 bt289.1 bt291.1).bind fun bt293 => (if cj = bv then (if ck = 0 then (if bW = 0 then (if bX = (-1) then (if bZ = 0 then (if bt289.2 = 0 then (if bt291.2 = 0 then (if bt293.1 = (-1) then (if bt293.2 = 0 then ((graftwoodlaw03_awake.f kj44).bind fun cf => (some cf)) else (some false)) else (some false)) else (some false)) else (some false)) else (some false)) else (some false)) else (some false)) else (some false)) else (some false))))) else (none))) = some r := by first | (rw [et]; with_reducible exact H) | (have H2_ := (Option.bind_some _ _).symm.trans H; rw [et]; with_reducible exact H2_) | (have H2_ := (Option.bind_some _ _).symm.trans H; with_reducible exact H2_) | with_reducible exact H | (rw [et]; exact H) | exact H
              have Ny277 := Aside0.mk et
              clear et
              obtain ⟨cG, eu⟩ : ∃ y_ : List Int, y_ = (([(97 + (Int.tmod a2 26)) % 256] : List Int)) := ⟨_, rfl⟩
              replace H : ((some (([strOfNums cG] : List ByteArray) : List ByteArray)).bind fun b1 => (if cb.length + b1.length < 8796093022208 then ((version_Join.f kj44 al an ao cy).bind fun bt289 => ((version_Join.f kj44 al an ao (cb ++ b1)).bind fun bt291 => ((version_Cmp.f kj44 bt289.1 bt291.1).bind fun bt293 => (if cj = bv then (if ck = 0 then (if bW = 0 then (if bX = (-1) then (if bZ = 0 then (if bt289.2 = 0 then (if bt291.2 = 0 then (if bt293.1 = (-1) then (if bt293.2 = 0 then ((graftwoodlaw03_awake.f kj44).bind fun cf => (some cf)) else (some false)) else (some false)) else (some false)) else (some false)) else (some false)) else (some false)) else (some false)) else (some false)) else (some false))))) else (none))) = some r := by first | (rw [eu]; with_reducible exact H) | (have H2_ := (Option.bind_some _ _).symm.trans H; rw [eu]; with_reducible exact H2_) | (have H2_ := (Option.bind_some _ _).symm.trans H; with_reducible exact H2_) | with_reducible exact H | (rw [eu]; exact H) | exact H
              have Ny280 := Aside0.mk eu
              clear eu
              obtain ⟨b1, ev⟩ : ∃ y_ : List ByteArray, y_ = (([strOfNums cG] : List ByteArray)) := ⟨_, rfl⟩
              replace H : (if cb.length + b1.length < 8796093022208 then ((version_Join.f kj44 al an ao cy).bind fun bt289 => ((version_Join.f kj44 al an ao (cb ++ b1)).bind fun bt291 => ((version_Cmp.f kj44 bt289.1 bt291.1).bind fun bt293 => (if cj = bv then (if ck = 0 then (if bW = 0 then (if bX = (-1) then (if bZ = 0 then (if bt289.2 = 0 then (if bt291.2 = 0 then (if bt293.1 = (-1) then (if bt293.2 = 0 then ((graftwoodlaw03_awake.f kj44).bind fun cf => (some cf)) else (some false)) else (some false)) else (some false)) else (some false)) else (some false)) else (some false)) else (some false)) else (some false)) else (some false))))) else (none)) = some r := by first | (rw [ev]; with_reducible exact H) | (have H2_ := (Option.bind_some _ _).symm.trans H; rw [ev]; with_reducible exact H2_) | (have H2_ := (Option.bind_some _ _).symm.trans H; with_reducible exact H2_) | with_reducible exact H | (rw [ev]; exact H) | exact H
              have Ny283 := Aside0.mk ev
              clear ev
              by_cases c72 : cb.length + b1.length < 8796093022208
              ·skip
               rw [if_pos c72] at H
               have LMc72 := Aside0.mk c72
               clear c72
               obtain ⟨cU, ew⟩ : ∃ y_ : List ByteArray, y_ = (cb ++ b1) := ⟨_, rfl⟩
               replace H : ((version_Join.f kj44 al an ao cy).bind fun bt289 => ((version_Join.f kj44 al an ao cU).bind fun bt291 => ((version_Cmp.f kj44 bt289.1 bt291.1).bind fun bt293 => (if cj = bv then (if ck = 0 then (if bW = 0 then (if bX = (-1) then (if bZ = 0 then (if bt289.2 = 0 then (if bt291.2 = 0 then (if bt293.1 = (-1) then (if bt293.2 = 0 then ((graftwoodlaw03_awake.f kj44).bind fun cf => (some cf)) else (some false)) else (some false)) else (some false)) else (some false)) else (some false)) else (some false)) else (some false)) else (some false)) else (some false))))) = some r := by first | (rw [ew]; with_reducible exact H) | (have H2_ := (Option.bind_some _ _).symm.trans H; rw [ew]; with_reducible exact H2_) | (have H2_ := (Option.bind_some _ _).symm.trans H; with_reducible exact H2_) | with_reducible exact H | (rw [ew]; exact H) | exact H
               have Ny286 := Aside0.mk ew
               clear ew
               replace H := Option.bind_eq_some_iff.mp H
               obtain ⟨⟨eN, eg⟩, f9, H⟩ := H
               replace H : ((version_Join.f kj44 al an ao cU).bind fun bt291 => ((version_Cmp.f kj44 eN bt291.1).bind fun bt293 => (if cj = bv then (if ck = 0 then (if bW = 0 then (if bX = (-1) then (if bZ = 0 then (if eg = 0 then (if bt291.2 = 0 then (if bt293.1 = (-1) then (if bt293.2 = 0 then ((graftwoodlaw03_awake.f kj44).bind fun cf => (some cf)) else (some false)) else (some false)) else (some false)) else (some false)) else (some false)) else (some false)) else (some false)) else (some false)) else (some false)))) = some r := H
               have A73 := Aside0.mk f9
               clear f9
               replace H := Option.bind_eq_some_iff.mp H
               obtain ⟨⟨fy, ex⟩, f_, H⟩ := H
               replace H : ((version_Cmp.f kj44 eN fy).bind fun bt293 => (if cj = bv then (if ck = 0 then (if bW = 0 then (if bX = (-1) then (if bZ = 0 then (if eg = 0 then (if ex = 0 then (if bt293.1 = (-1) then (if bt293.2 = 0 then ((graftwoodlaw03_awake.f kj44).bind fun cf => (some cf)) else (some false)) else (some false)) else (some false)) else (some false)) else (some false)) else (some false)) else (some false)) else (some false)) else (some false))) = some r := H
               have A74 := Aside0.mk f_
               clear f_
               replace H := Option.bind_eq_some_iff.mp H
               obtain ⟨⟨ey, ez⟩, ga, H⟩ := H
               replace H : (if cj = bv then (if ck = 0 then (if bW = 0 then (if bX = (-1) then (if bZ = 0 then (if eg = 0 then (if ex = 0 then (if ey = (-1) then (if ez = 0 then ((graftwoodlaw03_awake.f kj44).bind fun cf => (some cf)) else (some false)) else (some false)) else (some false)) else (some false)) else (some false)) else (some false)) else (some false)) else (some false)) else (some false)) = some r := H
               have A75 := Aside0.mk ga
               clear ga
               by_cases c76 : cj = bv
               ·skip
                rw [if_pos c76] at H
                have gb : (cj == bv) = true := beq_iff_eq.mpr c76
                have gc : (cj != bv) = false := bne_eq_false_iff_eq.mpr c76
                clear c76
                by_cases c77 : ck = 0
                ·skip
                 rw [if_pos c77] at H
                 have gd : (ck == 0) = true := beq_iff_eq.mpr c77
                 have ge : (ck != 0) = false := bne_eq_false_iff_eq.mpr c77
                 clear c77
                 by_cases c78 : bW = 0
                 ·skip
                  rw [if_pos c78] at H
                  have gf : (bW == 0) = true := beq_iff_eq.mpr c78
                  have gg : (bW != 0) = false := bne_eq_false_iff_eq.mpr c78
                  clear c78
                  by_cases c79 : bX = (-1)
                  ·skip
                   rw [if_pos c79] at H
                   have gh : (bX == (-1)) = true := beq_iff_eq.mpr c79
                   have gi : (bX != (-1)) = false := bne_eq_false_iff_eq.mpr c79
                   clear c79
                   by_cases c80 : bZ = 0
                   ·skip
                    rw [if_pos c80] at H
                    have gj : (bZ == 0) = true := beq_iff_eq.mpr c80
                    have gk : (bZ != 0) = false := bne_eq_false_iff_eq.mpr c80
                    clear c80
                    by_cases c81 : eg = 0
                    ·skip
                     rw [if_pos c81] at H
                     have gl : (eg == 0) = true := beq_iff_eq.mpr c81
                     have gm : (eg != 0) = false := bne_eq_false_iff_eq.mpr c81
                     clear c81
                     by_cases c82 : ex = 0
                     ·skip
                      rw [if_pos c82] at H
                      have gn : (ex == 0) = true := beq_iff_eq.mpr c82
                      have go : (ex != 0) = false := bne_eq_false_iff_eq.mpr c82
                      clear c82
                      by_cases c83 : ey = (-1)
                      ·skip
                       rw [if_pos c83] at H
                       have gp : (ey == (-1)) = true := beq_iff_eq.mpr c83
                       have gq : (ey != (-1)) = false := bne_eq_false_iff_eq.mpr c83
                       clear c83
                       by_cases c84 : ez = 0
                       ·skip
                        rw [if_pos c84] at H
                        have gr : (ez == 0) = true := beq_iff_eq.mpr c84
                        have gs : (ez != 0) = false := bne_eq_false_iff_eq.mpr c84
                        clear c84
                        replace H := Option.bind_eq_some_iff.mp H
                        obtain ⟨cf, gt, H⟩ := H
                        replace H : (some cf) = some r := H
                        have A85 := Aside0.mk gt
                        clear gt
                        obtain rfl := Option.some.inj H
                        try go_wp2
                        replace ab := am (Kd.R_drew ab.out)
                        replace aa := am (Kd.R_drew aa.out)
                        replace ac := am (Kd.R_drew ac.out)
                        replace ae := am (blk_drew ae.out)
                        replace ai := am (blk_drew ai.out)
                        replace aj := am (blk_drew aj.out)
                        replace HB := am (below_drew1 HB.out)
                        refine start_ (n := 6) (S := fun w' => True) (ds := []) (bA 6 0) (by kernel_rfl) rfl (by kernel_rfl) trivial (fun hHeld => ?_); refine with_tabW IVS.tab20 IVS.bits20 (fun HT_ HW_ => ?_)
                        generalize wc.drew = w86 at ab aa ac ae ai aj HB hHeld ⊢
                        refine inv_at [0, 1, 2, 3, 4, 5] (fun a0_ b a w' => ∃ (aH : Nat) (aI : Nat) (m2_ : Value) (m3_ : Value), a = putSel a0_ b [(0, 102, .agg #[.string al, .string an, .string ao, .slice aA ak.length az]), (1, 103, .agg #[.string al, .string an, .string ao, .slice aA ak.length az]), (2, 20, m2_), (3, 21, m3_)] ∧ (Kd.R Kd.string 9 w' w.heap.size (fun k_ => some k_ ≠ (.slice aD ap.length aC : Value).ownBlock ∧ some k_ ≠ (.slice aD ap.length aC : Value).ownBlock) (.slice aA ak.length az) ak) ∧ (Kd.R Kd.string 9 w' w.heap.size (fun k_ => some k_ ≠ (.slice aA ak.length az : Value).ownBlock) (.slice aD ap.length aC) ap) ∧ (Kd.R Kd.string 9 w' w.heap.size (fun k_ => some k_ ≠ (.slice aA ak.length az : Value).ownBlock) (.slice aD ap.length aC) ap) ∧ (w'.heap[aK]? = some (.cells #[.string al, .string an, .string ao, .slice aA ak.length az] 36 (0, 0))) ∧ (w'.heap[aZ]? = some (.cells #[.string al, .string an, .string ao, .slice aD ap.length aC] 36 (0, 0))) ∧ (w'.heap[aE]? = some (.cells #[.string al, .string an, .string b4, .slice aD ap.length aC] 36 (0, 0))) ∧ (Below w.heap.size w w') ∧ (b 2 = true → b 3 = true → aI ≠ aH) ∧ (b 2 = true → b 3 = true → aH ≠ aI) ∧ (b 2 = true → b 4 = false → w'.heap[aH]? = some (.cells #[.string (⟨#[]⟩ : ByteArray), .string (⟨#[]⟩ : ByteArray), .string (⟨#[]⟩ : ByteArray), .slice none 0 0] 36 (0, 0))) ∧ (b 2 = true → w.heap.size ≤ aH) ∧ (b 2 = true → w.heap.size ≤ aH) ∧ (b 2 = true → aK ≠ aH) ∧ (b 2 = true → aH ≠ aK) ∧ (b 2 = true → aZ ≠ aH) ∧ (b 2 = true → aH ≠ aZ) ∧ (b 2 = true → aE ≠ aH) ∧ (b 2 = true → aH ≠ aE) ∧ (b 3 = true → b 5 = false → w'.heap[aI]? = some (.cells #[.string (⟨#[]⟩ : ByteArray), .string (⟨#[]⟩ : ByteArray), .string (⟨#[]⟩ : ByteArray), .slice none 0 0] 36 (0, 0))) ∧ (b 3 = true → w.heap.size ≤ aI) ∧ (b 3 = true → w.heap.size ≤ aI) ∧ (b 3 = true → aK ≠ aI) ∧ (b 3 = true → aI ≠ aK) ∧ (b 3 = true → aZ ≠ aI) ∧ (b 3 = true → aI ≠ aZ) ∧ (b 3 = true → aE ≠ aI) ∧ (b 3 = true → aI ≠ aE) ∧ (b 4 = true → w'.heap[aH]? = some (.cells #[.string al, .string an, .string ao, .slice aA ak.length az] 36 (0, 0))) ∧ (b 5 = true → w'.heap[aI]? = some (.cells #[.string al, .string an, .string ao, .slice aA ak.length az] 36 (0, 0))) ∧ (b 2 = true → (m2_ : Value) = .pointer (some ⟨aH, 0, none⟩)) ∧ (b 3 = true → (m3_ : Value) = .pointer (some ⟨aI, 0, none⟩))) HT_.out HW_.out (by kernel_rfl) (by kernel_rfl) ?_ ?_ ?_
                        ·exact ⟨0, 0, .bool false, .bool false, by simp only [putSel, Bool.false_eq_true, if_false], ab.out, aa.out, ac.out, ae.out, ai.out, aj.out, HB.out, fun h_ => absurd h_ (by decide), fun h_ => absurd h_ (by decide), fun h_ => absurd h_ (by decide), fun h_ => absurd h_ (by decide), fun h_ => absurd h_ (by decide), fun h_ => absurd h_ (by decide), fun h_ => absurd h_ (by decide), fun h_ => absurd h_ (by decide), fun h_ => absurd h_ (by decide), fun h_ => absurd h_ (by decide), fun h_ => absurd h_ (by decide), fun h_ => absurd h_ (by decide), fun h_ => absurd h_ (by decide), fun h_ => absurd h_ (by decide), fun h_ => absurd h_ (by decide), fun h_ => absurd h_ (by decide), fun h_ => absurd h_ (by decide), fun h_ => absurd h_ (by decide), fun h_ => absurd h_ (by decide), fun h_ => absurd h_ (by decide), fun h_ => absurd h_ (by decide), fun h_ => absurd h_ (by decide), fun h_ => absurd h_ (by decide), fun h_ => absurd h_ (by decide)⟩
                        ·skip
                         clear ae ai aj HB ab aa ac
                         refine steps_cons ?_ ?_
                         ·rintro b a w' ⟨aH, aI, m2_, m3_, ha, af, ag, ah, aq, ar, au, Q_HB, bx, bz, ay, b5, b6, bb, bc, be, bf, bg, bh, ax, b7, b8, bi, bj, bk, bl, bm, bo, bM, b0, cC, cD⟩ hb_ hon hoff
                          refine ⟨_, rfl, fun K hK => ?_⟩
                          have e3 : a.tmps[3]? = some (.pointer (some ⟨aK, 0, none⟩)) := by rw [ha]; exact (putSel_off rfl).trans rfl
                          replace ha := Aside0.mk ha
                          have ab := Aside0.mk af
                          have aa := Aside0.mk ag
                          have ac := Aside0.mk ah
                          have ae := Aside0.mk aq
                          have ai := Aside0.mk ar
                          have aj := Aside0.mk au
                          have HB := Aside0.mk Q_HB
                          have hc0_ : w'.cell? ⟨aK, 0, none⟩ = some (.string al) := cT ae 0
                          have hc1_ : w'.cell? ⟨aK, 1, none⟩ = some (.string an) := cT ae 1
                          have hc2_ : w'.cell? ⟨aK, 2, none⟩ = some (.string ao) := cT ae 2
                          have hc3_ : w'.cell? ⟨aK, 3, none⟩ = some (.slice aA ak.length az) := cT ae 3
                          refine value_ (w1 := w') (v := .agg #[.string al, .string an, .string ao, .slice aA ak.length az]) (by rfl) rfl ?_ ?_
                          ·go_simp
                           (try simp only [i64_w])
                           try rfl
                          refine hK.out _ _ ⟨aH, aI, m2_, m3_, (by rw [ha.out]; exact putSel_upk 0 hb_ rfl rfl rfl), af, ag, ah, aq, ar, au, Q_HB, bx, bz, ay, b5, b6, bb, bc, be, bf, bg, bh, ax, b7, b8, bi, bj, bk, bl, bm, bo, xo_ (hoff 4 (by kernel_rfl)), xo_ (hoff 5 (by kernel_rfl)), cC, cD⟩
                         refine steps_cons ?_ ?_
                         ·rintro b a w' ⟨aH, aI, m2_, m3_, ha, af, ag, ah, aq, ar, au, Q_HB, bx, bz, ay, b5, b6, bb, bc, be, bf, bg, bh, ax, b7, b8, bi, bj, bk, bl, bm, bo, bM, b0, cC, cD⟩ hb_ hon hoff
                          refine ⟨_, rfl, fun K hK => ?_⟩
                          have e3 : a.tmps[3]? = some (.pointer (some ⟨aK, 0, none⟩)) := by rw [ha]; exact (putSel_off rfl).trans rfl
                          replace ha := Aside0.mk ha
                          have ab := Aside0.mk af
                          have aa := Aside0.mk ag
                          have ac := Aside0.mk ah
                          have ae := Aside0.mk aq
                          have ai := Aside0.mk ar
                          have aj := Aside0.mk au
                          have HB := Aside0.mk Q_HB
                          have hc0_ : w'.cell? ⟨aK, 0, none⟩ = some (.string al) := cT ae 0
                          have hc1_ : w'.cell? ⟨aK, 1, none⟩ = some (.string an) := cT ae 1
                          have hc2_ : w'.cell? ⟨aK, 2, none⟩ = some (.string ao) := cT ae 2
                          have hc3_ : w'.cell? ⟨aK, 3, none⟩ = some (.slice aA ak.length az) := cT ae 3
                          refine value_ (w1 := w') (v := .agg #[.string al, .string an, .string ao, .slice aA ak.length az]) (by rfl) rfl ?_ ?_
                          ·go_simp
                           (try simp only [i64_w])
                           try rfl
                          refine hK.out _ _ ⟨aH, aI, m2_, m3_, (by rw [ha.out]; exact putSel_upk 1 hb_ rfl rfl rfl), af, ag, ah, aq, ar, au, Q_HB, bx, bz, ay, b5, b6, bb, bc, be, bf, bg, bh, ax, b7, b8, bi, bj, bk, bl, bm, bo, bM, xo_ (hoff 5 (by kernel_rfl)), cC, cD⟩
                         refine steps_cons ?_ ?_
                         ·rintro b a w' ⟨aH, aI, m2_, m3_, ha, af, ag, ah, aq, ar, au, Q_HB, bx, bz, ay, b5, b6, bb, bc, be, bf, bg, bh, ax, b7, b8, bi, bj, bk, bl, bm, bo, bM, b0, cC, cD⟩ hb_ hon hoff
                          refine ⟨_, rfl, fun K hK => ?_⟩
                          replace ha := Aside0.mk ha
                          have ab := Aside0.mk af
                          have aa := Aside0.mk ag
                          have ac := Aside0.mk ah
                          have ae := Aside0.mk aq
                          have ai := Aside0.mk ar
                          have aj := Aside0.mk au
                          have HB := Aside0.mk Q_HB
                          refine box_step ?hg (N := 20) ?hd (cs := #[.string (⟨#[]⟩ : ByteArray), .string (⟨#[]⟩ : ByteArray), .string (⟨#[]⟩ : ByteArray), .slice none 0 0]) (t := 36) ?hr ?_; (case hd => rfl); (case hg => rfl); (case hr => first | (go_simp; done) | (go_simp; rfl))
                          intro aH hg w87 hbox hb
                          have n0_ := am (rB ab.out hb)
                          have n1_ := am (rB aa.out hb)
                          have n2_ := am (rB ac.out hb)
                          have n3_ := am (bB ae.out hb)
                          have n4_ := am (bB ai.out hb)
                          have n5_ := am (bB aj.out hb)
                          have n6_ := am (sT HB.out hb)
                          have n7_ := am (hbox)
                          have n8_ := am ((gT hg HB.out))
                          have n9_ := am ((gT hg HB.out))
                          have n10_ := am ((nT ae.out hg))
                          have n11_ := am ((mT ae.out hg))
                          have n12_ := am ((nT ai.out hg))
                          have n13_ := am ((mT ai.out hg))
                          have n14_ := am ((nT aj.out hg))
                          have n15_ := am ((mT aj.out hg))
                          have cK := fun (h0_ : up b 2 2 = true) (h1_ : up b 2 3 = true) => (show aI ≠ aH from (by cases hc_ : b 5 with | false => exact ((by rw [hg]; exact Nat.ne_of_lt (blk_lt (g := aI) (o := .cells #[.string (⟨#[]⟩ : ByteArray), .string (⟨#[]⟩ : ByteArray), .string (⟨#[]⟩ : ByteArray), .slice none 0 0] 36 (0, 0)) (by (with_reducible repeat (first | apply bn | apply bd | apply ba)); exact (ax (show b 3 = true from h1_) hc_))) : aI ≠ aH)) | true => exact ((by rw [hg]; exact Nat.ne_of_lt (blk_lt (g := aI) (by (with_reducible repeat (first | apply bn | apply bd | apply ba)); exact (b0 hc_))) : aI ≠ aH))))
                          have cL := fun (h0_ : up b 2 2 = true) (h1_ : up b 2 3 = true) => (show aH ≠ aI from (by cases hc_ : b 5 with | false => exact ((by rw [hg]; exact Nat.ne_of_gt (blk_lt (g := aI) (o := .cells #[.string (⟨#[]⟩ : ByteArray), .string (⟨#[]⟩ : ByteArray), .string (⟨#[]⟩ : ByteArray), .slice none 0 0] 36 (0, 0)) (by (with_reducible repeat (first | apply bn | apply bd | apply ba)); exact (ax (show b 3 = true from h1_) hc_))) : aH ≠ aI)) | true => exact ((by rw [hg]; exact Nat.ne_of_gt (blk_lt (g := aI) (by (with_reducible repeat (first | apply bn | apply bd | apply ba)); exact (b0 hc_))) : aH ≠ aI))))
                          have fz := fun (h0_ : b 3 = true) (h1_ : b 5 = false) => (show w87.heap[aI]? = some (.cells #[.string (⟨#[]⟩ : ByteArray), .string (⟨#[]⟩ : ByteArray), .string (⟨#[]⟩ : ByteArray), .slice none 0 0] 36 (0, 0)) from by first | exact (blk_below (g := aI) (o := .cells #[.string (⟨#[]⟩ : ByteArray), .string (⟨#[]⟩ : ByteArray), .string (⟨#[]⟩ : ByteArray), .slice none 0 0] 36 (0, 0)) (by (with_reducible repeat (first | apply bn | apply bd | apply ba)); exact (ax h0_ h1_)) hb))
                          clear ab aa ac ae ai aj HB
                          have ab := n0_
                          have aa := n1_
                          have ac := n2_
                          have ae := n3_
                          have ai := n4_
                          have aj := n5_
                          have HB := n6_
                          have av := n7_
                          have dc := n8_
                          have dd := n9_
                          have bp := n10_
                          have bO := n11_
                          have bq := n12_
                          have bP := n13_
                          have br := n14_
                          have bQ := n15_
                          clear n0_ n1_ n2_ n3_ n4_ n5_ n6_ n7_ n8_ n9_ n10_ n11_ n12_ n13_ n14_ n15_ hb hbox hg
                          refine hK.out _ _ ⟨aH, aI, (.pointer (some ⟨aH, 0, none⟩)), m3_, (by rw [ha.out]; exact putSel_upk 2 hb_ rfl rfl rfl), (rT ab.out), (rT aa.out), (rT ac.out), (bT ae.out), (bT ai.out), (bT aj.out), (eT HB.out), cK, cL, fun _ _ => (bT av.out), fun _ => dc.out, fun _ => dd.out, fun _ => bp.out, fun _ => bO.out, fun _ => bq.out, fun _ => bP.out, fun _ => br.out, fun _ => bQ.out, fz, b7, b8, bi, bj, bk, bl, bm, bo, xo_ (hoff 4 (by kernel_rfl)), xo_ (hoff 5 (by kernel_rfl)), fun _ => rfl, cD⟩
                         refine steps_cons ?_ ?_
                         ·rintro b a w' ⟨aH, aI, m2_, m3_, ha, af, ag, ah, aq, ar, au, Q_HB, bx, bz, ay, b5, b6, bb, bc, be, bf, bg, bh, ax, b7, b8, bi, bj, bk, bl, bm, bo, bM, b0, cC, cD⟩ hb_ hon hoff
                          refine ⟨_, rfl, fun K hK => ?_⟩
                          replace ha := Aside0.mk ha
                          have ab := Aside0.mk af
                          have aa := Aside0.mk ag
                          have ac := Aside0.mk ah
                          have ae := Aside0.mk aq
                          have ai := Aside0.mk ar
                          have aj := Aside0.mk au
                          have HB := Aside0.mk Q_HB
                          refine box_step ?hg (N := 21) ?hd (cs := #[.string (⟨#[]⟩ : ByteArray), .string (⟨#[]⟩ : ByteArray), .string (⟨#[]⟩ : ByteArray), .slice none 0 0]) (t := 36) ?hr ?_; (case hd => rfl); (case hg => rfl); (case hr => first | (go_simp; done) | (go_simp; rfl))
                          intro aI hg w87 hbox hb
                          have n0_ := am (rB ab.out hb)
                          have n1_ := am (rB aa.out hb)
                          have n2_ := am (rB ac.out hb)
                          have n3_ := am (bB ae.out hb)
                          have n4_ := am (bB ai.out hb)
                          have n5_ := am (bB aj.out hb)
                          have n6_ := am (sT HB.out hb)
                          have n7_ := am (hbox)
                          have n8_ := am ((gT hg HB.out))
                          have n9_ := am ((gT hg HB.out))
                          have n10_ := am ((nT ae.out hg))
                          have n11_ := am ((mT ae.out hg))
                          have n12_ := am ((nT ai.out hg))
                          have n13_ := am ((mT ai.out hg))
                          have n14_ := am ((nT aj.out hg))
                          have n15_ := am ((mT aj.out hg))
                          have cK := fun (h0_ : up b 3 2 = true) (h1_ : up b 3 3 = true) => (show aI ≠ aH from (by cases hc_ : b 4 with | false => exact ((by rw [hg]; exact Nat.ne_of_gt (blk_lt (g := aH) (o := .cells #[.string (⟨#[]⟩ : ByteArray), .string (⟨#[]⟩ : ByteArray), .string (⟨#[]⟩ : ByteArray), .slice none 0 0] 36 (0, 0)) (by (with_reducible repeat (first | apply bn | apply bd | apply ba)); exact (ay (show b 2 = true from h0_) hc_))) : aI ≠ aH)) | true => exact ((by rw [hg]; exact Nat.ne_of_gt (blk_lt (g := aH) (by (with_reducible repeat (first | apply bn | apply bd | apply ba)); exact (bM hc_))) : aI ≠ aH))))
                          have cL := fun (h0_ : up b 3 2 = true) (h1_ : up b 3 3 = true) => (show aH ≠ aI from (by cases hc_ : b 4 with | false => exact ((by rw [hg]; exact Nat.ne_of_lt (blk_lt (g := aH) (o := .cells #[.string (⟨#[]⟩ : ByteArray), .string (⟨#[]⟩ : ByteArray), .string (⟨#[]⟩ : ByteArray), .slice none 0 0] 36 (0, 0)) (by (with_reducible repeat (first | apply bn | apply bd | apply ba)); exact (ay (show b 2 = true from h0_) hc_))) : aH ≠ aI)) | true => exact ((by rw [hg]; exact Nat.ne_of_lt (blk_lt (g := aH) (by (with_reducible repeat (first | apply bn | apply bd | apply ba)); exact (bM hc_))) : aH ≠ aI))))
                          have fA := fun (h0_ : b 2 = true) (h1_ : b 4 = false) => (show w87.heap[aH]? = some (.cells #[.string (⟨#[]⟩ : ByteArray), .string (⟨#[]⟩ : ByteArray), .string (⟨#[]⟩ : ByteArray), .slice none 0 0] 36 (0, 0)) from by first | exact (blk_below (g := aH) (o := .cells #[.string (⟨#[]⟩ : ByteArray), .string (⟨#[]⟩ : ByteArray), .string (⟨#[]⟩ : ByteArray), .slice none 0 0] 36 (0, 0)) (by (with_reducible repeat (first | apply bn | apply bd | apply ba)); exact (ay h0_ h1_)) hb))
                          clear ab aa ac ae ai aj HB
                          have ab := n0_
                          have aa := n1_
                          have ac := n2_
                          have ae := n3_
                          have ai := n4_
                          have aj := n5_
                          have HB := n6_
                          have aw := n7_
                          have de := n8_
                          have df := n9_
                          have bs := n10_
                          have bR := n11_
                          have bt := n12_
                          have bS := n13_
                          have bu := n14_
                          have bU := n15_
                          clear n0_ n1_ n2_ n3_ n4_ n5_ n6_ n7_ n8_ n9_ n10_ n11_ n12_ n13_ n14_ n15_ hb hbox hg
                          refine hK.out _ _ ⟨aH, aI, m2_, (.pointer (some ⟨aI, 0, none⟩)), (by rw [ha.out]; exact putSel_upk 3 hb_ rfl rfl rfl), (rT ab.out), (rT aa.out), (rT ac.out), (bT ae.out), (bT ai.out), (bT aj.out), (eT HB.out), cK, cL, fA, b5, b6, bb, bc, be, bf, bg, bh, fun _ _ => (bT aw.out), fun _ => de.out, fun _ => df.out, fun _ => bs.out, fun _ => bR.out, fun _ => bt.out, fun _ => bS.out, fun _ => bu.out, fun _ => bU.out, xo_ (hoff 4 (by kernel_rfl)), xo_ (hoff 5 (by kernel_rfl)), cC, fun _ => rfl⟩
                         refine steps_cons ?_ ?_
                         ·rintro b a w' ⟨aH, aI, m2_, m3_, ha, af, ag, ah, aq, ar, au, Q_HB, bx, bz, ay, b5, b6, bb, bc, be, bf, bg, bh, ax, b7, b8, bi, bj, bk, bl, bm, bo, bM, b0, cC, cD⟩ hb_ hon hoff
                          refine ⟨_, rfl, fun K hK => ?_⟩
                          have e20 : a.tmps[20]? = some (m2_) := by rw [ha]; exact putSel_on (e := (2, 20, m2_)) 2 rfl rfl (hon 2 (by kernel_rfl)) rfl
                          rw [cC (hon 2 (by kernel_rfl))] at e20
                          have e102 : a.tmps[102]? = some (.agg #[.string al, .string an, .string ao, .slice aA ak.length az]) := by rw [ha]; exact putSel_on (e := (0, 102, .agg #[.string al, .string an, .string ao, .slice aA ak.length az])) 0 rfl rfl (hon 0 (by kernel_rfl)) rfl
                          replace ha := Aside0.mk ha
                          have ab := Aside0.mk af
                          have aa := Aside0.mk ag
                          have ac := Aside0.mk ah
                          have ae := Aside0.mk aq
                          have ai := Aside0.mk ar
                          have aj := Aside0.mk au
                          have HB := Aside0.mk Q_HB
                          have a7 := am (bx (hon 2 (by kernel_rfl)) (hon 3 (by kernel_rfl)))
                          have a8 := am (bz (hon 2 (by kernel_rfl)) (hon 3 (by kernel_rfl)))
                          have av := am (ay (hon 2 (by kernel_rfl)) hb_)
                          have dc := am (b5 (hon 2 (by kernel_rfl)))
                          have dd := am (b6 (hon 2 (by kernel_rfl)))
                          have bp := am (bb (hon 2 (by kernel_rfl)))
                          have bO := am (bc (hon 2 (by kernel_rfl)))
                          have bq := am (be (hon 2 (by kernel_rfl)))
                          have bP := am (bf (hon 2 (by kernel_rfl)))
                          have br := am (bg (hon 2 (by kernel_rfl)))
                          have bQ := am (bh (hon 2 (by kernel_rfl)))
                          have aw := am (ax (hon 3 (by kernel_rfl)) (hoff 5 (by kernel_rfl)))
                          have de := am (b7 (hon 3 (by kernel_rfl)))
                          have df := am (b8 (hon 3 (by kernel_rfl)))
                          have bs := am (bi (hon 3 (by kernel_rfl)))
                          have bR := am (bj (hon 3 (by kernel_rfl)))
                          have bt := am (bk (hon 3 (by kernel_rfl)))
                          have bS := am (bl (hon 3 (by kernel_rfl)))
                          have bu := am (bm (hon 3 (by kernel_rfl)))
                          have bU := am (bo (hon 3 (by kernel_rfl)))
                          have jD : w'.cell? ⟨aH, 0, none⟩ = some (.string (⟨#[]⟩ : ByteArray)) := cT av 0
                          have jo := blk_frozen av.out 0
                          have hv := bp.out
                          have hw := bq.out
                          have hx := br.out
                          have hz := a7.out
                          have hA := bO.out
                          have hB := bP.out
                          have hC := bQ.out
                          have hD := a8.out
                          have jE : w'.cell? ⟨aH, 1, none⟩ = some (.string (⟨#[]⟩ : ByteArray)) := cT av 1
                          have jp := blk_frozen av.out 1
                          have hE := bp.out
                          have hF := bq.out
                          have hG := br.out
                          have hH := a7.out
                          have hI := bO.out
                          have hJ := bP.out
                          have hL := bQ.out
                          have hM := a8.out
                          have jF : w'.cell? ⟨aH, 2, none⟩ = some (.string (⟨#[]⟩ : ByteArray)) := cT av 2
                          have jq := blk_frozen av.out 2
                          have hN := bp.out
                          have hO := bq.out
                          have hP := br.out
                          have hQ := a7.out
                          have hR := bO.out
                          have hS := bP.out
                          have hT := bQ.out
                          have hU := a8.out
                          have jG : w'.cell? ⟨aH, 3, none⟩ = some (.slice none 0 0) := cT av 3
                          have jr := blk_frozen av.out 3
                          have hV := bp.out
                          have hW := bq.out
                          have hX := br.out
                          have hY := a7.out
                          have hZ := bO.out
                          have h1 := bP.out
                          have h2 := bQ.out
                          have h3 := a8.out
                          refine skip_ (w1 := ?_) (by rfl) rfl ?_ ?_
                          rotate_left
                          ·go_simp
                           rfl
                          refine hK.out _ _ ⟨aH, aI, m2_, m3_, (by rw [ha.out]; exact putSel_none (v := undef) rfl), (by (with_reducible repeat (first | apply Kd.R_alloc | apply Kd.R_drewN | apply Kd.R_drew)); exact Kd.R_mono (Kd.R_far (p := ⟨aH, 3, none⟩) (Kd.R_far (p := ⟨aH, 2, none⟩) (Kd.R_far (p := ⟨aH, 1, none⟩) (Kd.R_far (p := ⟨aH, 0, none⟩) (Kd.R_types ab.out av.out (by decide)) (fun _ hk => hk.2) (.string al)) (fun _ hk => hk.2) (.string an)) (fun _ hk => hk.2) (.string ao)) (fun _ hk => hk.2) (.slice aA ak.length az)) (fun _ hk => by simp only [hk, ne_eq, not_false_eq_true, and_self])), (by (with_reducible repeat (first | apply Kd.R_alloc | apply Kd.R_drewN | apply Kd.R_drew)); exact Kd.R_mono (Kd.R_far (p := ⟨aH, 3, none⟩) (Kd.R_far (p := ⟨aH, 2, none⟩) (Kd.R_far (p := ⟨aH, 1, none⟩) (Kd.R_far (p := ⟨aH, 0, none⟩) (Kd.R_types aa.out av.out (by decide)) (fun _ hk => hk.2) (.string al)) (fun _ hk => hk.2) (.string an)) (fun _ hk => hk.2) (.string ao)) (fun _ hk => hk.2) (.slice aA ak.length az)) (fun _ hk => hk.1)), (by (with_reducible repeat (first | apply Kd.R_alloc | apply Kd.R_drewN | apply Kd.R_drew)); exact Kd.R_mono (Kd.R_far (p := ⟨aH, 3, none⟩) (Kd.R_far (p := ⟨aH, 2, none⟩) (Kd.R_far (p := ⟨aH, 1, none⟩) (Kd.R_far (p := ⟨aH, 0, none⟩) (Kd.R_types ac.out av.out (by decide)) (fun _ hk => hk.2) (.string al)) (fun _ hk => hk.2) (.string an)) (fun _ hk => hk.2) (.string ao)) (fun _ hk => hk.2) (.slice aA ak.length az)) (fun _ hk => hk.1)), (by (with_reducible repeat (first | apply bn | apply bd | apply ba)); refine blk_far ?_ bp.out _; (with_reducible repeat (first | apply bn | apply bd | apply ba)); refine blk_far ?_ bp.out _; (with_reducible repeat (first | apply bn | apply bd | apply ba)); refine blk_far ?_ bp.out _; (with_reducible repeat (first | apply bn | apply bd | apply ba)); refine blk_far ?_ bp.out _; exact bT ae.out), (by (with_reducible repeat (first | apply bn | apply bd | apply ba)); refine blk_far ?_ bq.out _; (with_reducible repeat (first | apply bn | apply bd | apply ba)); refine blk_far ?_ bq.out _; (with_reducible repeat (first | apply bn | apply bd | apply ba)); refine blk_far ?_ bq.out _; (with_reducible repeat (first | apply bn | apply bd | apply ba)); refine blk_far ?_ bq.out _; exact bT ai.out), (by (with_reducible repeat (first | apply bn | apply bd | apply ba)); refine blk_far ?_ br.out _; (with_reducible repeat (first | apply bn | apply bd | apply ba)); refine blk_far ?_ br.out _; (with_reducible repeat (first | apply bn | apply bd | apply ba)); refine blk_far ?_ br.out _; (with_reducible repeat (first | apply bn | apply bd | apply ba)); refine blk_far ?_ br.out _; exact bT aj.out), (by repeat (first | (with_reducible first | exact HB.out | apply pA | apply pN | apply pD | refine eU ?_ (by assumption)) | exact HB.out)), fun _ _ => a7.out, fun _ _ => a8.out, fun _ h1_ => absurd ((up_self b 4).symm.trans h1_) (by decide), fun _ => dc.out, fun _ => dd.out, fun _ => bp.out, fun _ => bO.out, fun _ => bq.out, fun _ => bP.out, fun _ => br.out, fun _ => bQ.out, fun _ _ => (by (with_reducible repeat (first | apply bn | apply bd | apply ba)); refine blk_far ?_ a7.out _; (with_reducible repeat (first | apply bn | apply bd | apply ba)); refine blk_far ?_ a7.out _; (with_reducible repeat (first | apply bn | apply bd | apply ba)); refine blk_far ?_ a7.out _; (with_reducible repeat (first | apply bn | apply bd | apply ba)); refine blk_far ?_ a7.out _; exact bT aw.out), fun _ => de.out, fun _ => df.out, fun _ => bs.out, fun _ => bR.out, fun _ => bt.out, fun _ => bS.out, fun _ => bu.out, fun _ => bU.out, fun _ => (by (with_reducible repeat (first | apply bn | apply bd | apply ba)); refine blk_put (cs := #[.string al, .string an, .string ao, .slice none 0 0]) ?_ 3 _ rfl; (with_reducible repeat (first | apply bn | apply bd | apply ba)); refine blk_put (cs := #[.string al, .string an, .string (⟨#[]⟩ : ByteArray), .slice none 0 0]) ?_ 2 _ rfl; (with_reducible repeat (first | apply bn | apply bd | apply ba)); refine blk_put (cs := #[.string al, .string (⟨#[]⟩ : ByteArray), .string (⟨#[]⟩ : ByteArray), .slice none 0 0]) ?_ 1 _ rfl; (with_reducible repeat (first | apply bn | apply bd | apply ba)); refine blk_put (cs := #[.string (⟨#[]⟩ : ByteArray), .string (⟨#[]⟩ : ByteArray), .string (⟨#[]⟩ : ByteArray), .slice none 0 0]) ?_ 0 _ rfl; exact bT av.out), xo_ (hoff 5 (by kernel_rfl)), cC, cD⟩
                         refine steps_cons ?_ ?_
                         ·rintro b a w' ⟨aH, aI, m2_, m3_, ha, af, ag, ah, aq, ar, au, Q_HB, bx, bz, ay, b5, b6, bb, bc, be, bf, bg, bh, ax, b7, b8, bi, bj, bk, bl, bm, bo, bM, b0, cC, cD⟩ hb_ hon hoff
                          refine ⟨_, rfl, fun K hK => ?_⟩
                          have e21 : a.tmps[21]? = some (m3_) := by rw [ha]; exact putSel_on (e := (3, 21, m3_)) 3 rfl rfl (hon 3 (by kernel_rfl)) rfl
                          rw [cD (hon 3 (by kernel_rfl))] at e21
                          have e103 : a.tmps[103]? = some (.agg #[.string al, .string an, .string ao, .slice aA ak.length az]) := by rw [ha]; exact putSel_on (e := (1, 103, .agg #[.string al, .string an, .string ao, .slice aA ak.length az])) 1 rfl rfl (hon 1 (by kernel_rfl)) rfl
                          replace ha := Aside0.mk ha
                          have ab := Aside0.mk af
                          have aa := Aside0.mk ag
                          have ac := Aside0.mk ah
                          have ae := Aside0.mk aq
                          have ai := Aside0.mk ar
                          have aj := Aside0.mk au
                          have HB := Aside0.mk Q_HB
                          have a7 := am (bx (hon 2 (by kernel_rfl)) (hon 3 (by kernel_rfl)))
                          have a8 := am (bz (hon 2 (by kernel_rfl)) (hon 3 (by kernel_rfl)))
                          have dc := am (b5 (hon 2 (by kernel_rfl)))
                          have dd := am (b6 (hon 2 (by kernel_rfl)))
                          have bp := am (bb (hon 2 (by kernel_rfl)))
                          have bO := am (bc (hon 2 (by kernel_rfl)))
                          have bq := am (be (hon 2 (by kernel_rfl)))
                          have bP := am (bf (hon 2 (by kernel_rfl)))
                          have br := am (bg (hon 2 (by kernel_rfl)))
                          have bQ := am (bh (hon 2 (by kernel_rfl)))
                          have aw := am (ax (hon 3 (by kernel_rfl)) hb_)
                          have de := am (b7 (hon 3 (by kernel_rfl)))
                          have df := am (b8 (hon 3 (by kernel_rfl)))
                          have bs := am (bi (hon 3 (by kernel_rfl)))
                          have bR := am (bj (hon 3 (by kernel_rfl)))
                          have bt := am (bk (hon 3 (by kernel_rfl)))
                          have bS := am (bl (hon 3 (by kernel_rfl)))
                          have bu := am (bm (hon 3 (by kernel_rfl)))
                          have bU := am (bo (hon 3 (by kernel_rfl)))
                          have av := am (bM (hon 4 (by kernel_rfl)))
                          have jH : w'.cell? ⟨aI, 0, none⟩ = some (.string (⟨#[]⟩ : ByteArray)) := cT aw 0
                          have js := blk_frozen aw.out 0
                          have h4 := bs.out
                          have h5 := bt.out
                          have h6 := bu.out
                          have h7 := a8.out
                          have h8 := bR.out
                          have h9 := bS.out
                          have ia := bU.out
                          have ib := a7.out
                          have jI : w'.cell? ⟨aI, 1, none⟩ = some (.string (⟨#[]⟩ : ByteArray)) := cT aw 1
                          have jt := blk_frozen aw.out 1
                          have ic := bs.out
                          have id := bt.out
                          have ie := bu.out
                          have ig := a8.out
                          have ih := bR.out
                          have ii := bS.out
                          have ij := bU.out
                          have ik := a7.out
                          have jJ : w'.cell? ⟨aI, 2, none⟩ = some (.string (⟨#[]⟩ : ByteArray)) := cT aw 2
                          have ju := blk_frozen aw.out 2
                          have il := bs.out
                          have im := bt.out
                          have io := bu.out
                          have ip := a8.out
                          have iq := bR.out
                          have ir := bS.out
                          have iu := bU.out
                          have iv := a7.out
                          have jK : w'.cell? ⟨aI, 3, none⟩ = some (.slice none 0 0) := cT aw 3
                          have jv := blk_frozen aw.out 3
                          have iw := bs.out
                          have ix := bt.out
                          have iy := bu.out
                          have iz := a8.out
                          have iA := bR.out
                          have iB := bS.out
                          have iC := bU.out
                          have iD := a7.out
                          refine skip_ (w1 := ?_) (by rfl) rfl ?_ ?_
                          rotate_left
                          ·go_simp
                           rfl
                          refine hK.out _ _ ⟨aH, aI, m2_, m3_, (by rw [ha.out]; exact putSel_none (v := undef) rfl), (by (with_reducible repeat (first | apply Kd.R_alloc | apply Kd.R_drewN | apply Kd.R_drew)); exact Kd.R_mono (Kd.R_far (p := ⟨aI, 3, none⟩) (Kd.R_far (p := ⟨aI, 2, none⟩) (Kd.R_far (p := ⟨aI, 1, none⟩) (Kd.R_far (p := ⟨aI, 0, none⟩) (Kd.R_types ab.out aw.out (by decide)) (fun _ hk => hk.2) (.string al)) (fun _ hk => hk.2) (.string an)) (fun _ hk => hk.2) (.string ao)) (fun _ hk => hk.2) (.slice aA ak.length az)) (fun _ hk => by simp only [hk, ne_eq, not_false_eq_true, and_self])), (by (with_reducible repeat (first | apply Kd.R_alloc | apply Kd.R_drewN | apply Kd.R_drew)); exact Kd.R_mono (Kd.R_far (p := ⟨aI, 3, none⟩) (Kd.R_far (p := ⟨aI, 2, none⟩) (Kd.R_far (p := ⟨aI, 1, none⟩) (Kd.R_far (p := ⟨aI, 0, none⟩) (Kd.R_types aa.out aw.out (by decide)) (fun _ hk => hk.2) (.string al)) (fun _ hk => hk.2) (.string an)) (fun _ hk => hk.2) (.string ao)) (fun _ hk => hk.2) (.slice aA ak.length az)) (fun _ hk => hk.1)), (by (with_reducible repeat (first | apply Kd.R_alloc | apply Kd.R_drewN | apply Kd.R_drew)); exact Kd.R_mono (Kd.R_far (p := ⟨aI, 3, none⟩) (Kd.R_far (p := ⟨aI, 2, none⟩) (Kd.R_far (p := ⟨aI, 1, none⟩) (Kd.R_far (p := ⟨aI, 0, none⟩) (Kd.R_types ac.out aw.out (by decide)) (fun _ hk => hk.2) (.string al)) (fun _ hk => hk.2) (.string an)) (fun _ hk => hk.2) (.string ao)) (fun _ hk => hk.2) (.slice aA ak.length az)) (fun _ hk => hk.1)), (by (with_reducible repeat (first | apply bn | apply bd | apply ba)); refine blk_far ?_ bs.out _; (with_reducible repeat (first | apply bn | apply bd | apply ba)); refine blk_far ?_ bs.out _; (with_reducible repeat (first | apply bn | apply bd | apply ba)); refine blk_far ?_ bs.out _; (with_reducible repeat (first | apply bn | apply bd | apply ba)); refine blk_far ?_ bs.out _; exact bT ae.out), (by (with_reducible repeat (first | apply bn | apply bd | apply ba)); refine blk_far ?_ bt.out _; (with_reducible repeat (first | apply bn | apply bd | apply ba)); refine blk_far ?_ bt.out _; (with_reducible repeat (first | apply bn | apply bd | apply ba)); refine blk_far ?_ bt.out _; (with_reducible repeat (first | apply bn | apply bd | apply ba)); refine blk_far ?_ bt.out _; exact bT ai.out), (by (with_reducible repeat (first | apply bn | apply bd | apply ba)); refine blk_far ?_ bu.out _; (with_reducible repeat (first | apply bn | apply bd | apply ba)); refine blk_far ?_ bu.out _; (with_reducible repeat (first | apply bn | apply bd | apply ba)); refine blk_far ?_ bu.out _; (with_reducible repeat (first | apply bn | apply bd | apply ba)); refine blk_far ?_ bu.out _; exact bT aj.out), (by repeat (first | (with_reducible first | exact HB.out | apply pA | apply pN | apply pD | refine eU ?_ (by assumption)) | exact HB.out)), fun _ _ => a7.out, fun _ _ => a8.out, fun _ h1_ => absurd ((hon 4 (by kernel_rfl)).symm.trans h1_) (by decide), fun _ => dc.out, fun _ => dd.out, fun _ => bp.out, fun _ => bO.out, fun _ => bq.out, fun _ => bP.out, fun _ => br.out, fun _ => bQ.out, fun _ h1_ => absurd ((up_self b 5).symm.trans h1_) (by decide), fun _ => de.out, fun _ => df.out, fun _ => bs.out, fun _ => bR.out, fun _ => bt.out, fun _ => bS.out, fun _ => bu.out, fun _ => bU.out, fun _ => (by (with_reducible repeat (first | apply bn | apply bd | apply ba)); refine blk_far ?_ a8.out _; (with_reducible repeat (first | apply bn | apply bd | apply ba)); refine blk_far ?_ a8.out _; (with_reducible repeat (first | apply bn | apply bd | apply ba)); refine blk_far ?_ a8.out _; (with_reducible repeat (first | apply bn | apply bd | apply ba)); refine blk_far ?_ a8.out _; exact bT av.out), fun _ => (by (with_reducible repeat (first | apply bn | apply bd | apply ba)); refine blk_put (cs := #[.string al, .string an, .string ao, .slice none 0 0]) ?_ 3 _ rfl; (with_reducible repeat (first | apply bn | apply bd | apply ba)); refine blk_put (cs := #[.string al, .string an, .string (⟨#[]⟩ : ByteArray), .slice none 0 0]) ?_ 2 _ rfl; (with_reducible repeat (first | apply bn | apply bd | apply ba)); refine blk_put (cs := #[.string al, .string (⟨#[]⟩ : ByteArray), .string (⟨#[]⟩ : ByteArray), .slice none 0 0]) ?_ 1 _ rfl; (with_reducible repeat (first | apply bn | apply bd | apply ba)); refine blk_put (cs := #[.string (⟨#[]⟩ : ByteArray), .string (⟨#[]⟩ : ByteArray), .string (⟨#[]⟩ : ByteArray), .slice none 0 0]) ?_ 0 _ rfl; exact bT aw.out), cC, cD⟩
                         exact steps_nil
                        rintro b a w97 hall ⟨aH, aI, m2_, m3_, ha, af, ag, ah, aq, ar, au, Q_HB, bx, bz, ay, b5, b6, bb, bc, be, bf, bg, bh, ax, b7, b8, bi, bj, bk, bl, bm, bo, bM, b0, cC, cD⟩
                        clear ae ai aj HB ab aa ac
                        have hb0_ := hall 0 (by kernel_rfl)
                        have hb1_ := hall 1 (by kernel_rfl)
                        have hb2_ := hall 2 (by kernel_rfl)
                        have hb3_ := hall 3 (by kernel_rfl)
                        have hb4_ := hall 4 (by kernel_rfl)
                        have hb5_ := hall 5 (by kernel_rfl)
                        subst ha
                        obtain rfl := cC hb2_
                        obtain rfl := cD hb3_
                        simp only [putSel, hb0_, hb1_, hb2_, hb3_, hb4_, hb5_, if_true, Act.put, List.setIfInBounds_toArray, List.set_cons_zero, List.set_cons_succ]
                        have ab := Aside0.mk af
                        clear af
                        have aa := Aside0.mk ag
                        clear ag
                        have ac := Aside0.mk ah
                        clear ah
                        have ae := Aside0.mk aq
                        clear aq
                        have ai := Aside0.mk ar
                        clear ar
                        have aj := Aside0.mk au
                        clear au
                        have HB := Aside0.mk Q_HB
                        clear Q_HB
                        have a7 := am (bx hb2_ hb3_)
                        clear bx
                        have a8 := am (bz hb2_ hb3_)
                        clear bz ay
                        have dc := am (b5 hb2_)
                        clear b5
                        have dd := am (b6 hb2_)
                        clear b6
                        have bp := am (bb hb2_)
                        clear bb
                        have bO := am (bc hb2_)
                        clear bc
                        have bq := am (be hb2_)
                        clear be
                        have bP := am (bf hb2_)
                        clear bf
                        have br := am (bg hb2_)
                        clear bg
                        have bQ := am (bh hb2_)
                        clear bh ax
                        have de := am (b7 hb3_)
                        clear b7
                        have df := am (b8 hb3_)
                        clear b8
                        have bs := am (bi hb3_)
                        clear bi
                        have bR := am (bj hb3_)
                        clear bj
                        have bt := am (bk hb3_)
                        clear bk
                        have bS := am (bl hb3_)
                        clear bl
                        have bu := am (bm hb3_)
                        clear bm
                        have bU := am (bo hb3_)
                        clear bo
                        have av := am (bM hb4_)
                        clear bM
                        have aw := am (b0 hb5_)
                        clear b0 hall hb0_ hb1_ hb2_ hb3_ hb4_ hb5_
                        try go_wp2
                        replace ab := am (Kd.R_drew ab.out)
                        replace aa := am (Kd.R_drew aa.out)
                        replace ac := am (Kd.R_drew ac.out)
                        replace ae := am (blk_drew ae.out)
                        replace ai := am (blk_drew ai.out)
                        replace aj := am (blk_drew aj.out)
                        replace av := am (blk_drew av.out)
                        replace aw := am (blk_drew aw.out)
                        replace HB := am (below_drew1 HB.out)
                        refine start_ (n := 26) (S := fun w' => True) (ds := []) (bA 26 0) (by kernel_rfl) rfl (by kernel_rfl) trivial (fun hHeld => ?_); refine with_tabW IVS.tab21 IVS.bits21 (fun HT_ HW_ => ?_)
                        generalize w97.drew = w98 at ab aa ac ae ai aj av aw HB hHeld ⊢
                        refine pT 1 105 (bA 26 2) HT_.out ?_
                        refine pT 4 108 (bA 26 18) HT_.out ?_
                        refine pT 12 116 (bA 26 4114) HT_.out ?_
                        refine pT 15 119 (bA 26 36882) HT_.out ?_
                        refine inv_at [0, 2, 3, 5, 6, 7, 8, 9, 10, 11, 13, 14, 16, 17, 18, 19, 20, 21, 22, 23, 24, 25] (fun a0_ b a w' => ∃ (bD : Value) (bE : Value) (bJ : Value) (bH : Value) (bI : Value) (bw : Value) (bK : Value) (bG : Value) (bF : Value) (bL : Value), a = putSel a0_ b [(0, 104, bD), (2, 106, .slice aA ak.length az), (3, 107, bE), (5, 109, .int .u8 (Int.tmod a2 9)), (6, 110, .int .u8 ((49 + (Int.tmod a2 9)) % 256)), (7, 111, bJ), (8, 112, .string (strOfNums cJ)), (9, 113, bH), (10, 114, bI), (11, 115, bw), (13, 117, .slice aA ak.length az), (14, 118, bK), (16, 120, .int .u8 (Int.tmod a2 26)), (17, 121, .int .u8 ((97 + (Int.tmod a2 26)) % 256)), (18, 122, bG), (19, 123, .string (strOfNums cG)), (20, 124, bF), (21, 125, bL), (22, 126, .pointer (some ⟨aH, 3, none⟩)), (24, 127, .pointer (some ⟨aI, 3, none⟩))] ∧ (Kd.R Kd.string 9 w' w.heap.size (fun k_ => some k_ ≠ (.slice aD ap.length aC : Value).ownBlock ∧ some k_ ≠ (.slice aD ap.length aC : Value).ownBlock) (.slice aA ak.length az) ak) ∧ (Kd.R Kd.string 9 w' w.heap.size (fun k_ => some k_ ≠ (.slice aA ak.length az : Value).ownBlock) (.slice aD ap.length aC) ap) ∧ (Kd.R Kd.string 9 w' w.heap.size (fun k_ => some k_ ≠ (.slice aA ak.length az : Value).ownBlock) (.slice aD ap.length aC) ap) ∧ (w'.heap[aK]? = some (.cells #[.string al, .string an, .string ao, .slice aA ak.length az] 36 (0, 0))) ∧ (w'.heap[aZ]? = some (.cells #[.string al, .string an, .string ao, .slice aD ap.length aC] 36 (0, 0))) ∧ (w'.heap[aE]? = some (.cells #[.string al, .string an, .string b4, .slice aD ap.length aC] 36 (0, 0))) ∧ (b 23 = false → w'.heap[aH]? = some (.cells #[.string al, .string an, .string ao, .slice aA ak.length az] 36 (0, 0))) ∧ (b 25 = false → w'.heap[aI]? = some (.cells #[.string al, .string an, .string ao, .slice aA ak.length az] 36 (0, 0))) ∧ (Below w.heap.size w w') ∧ (b 0 = true → b 3 = false → Kd.R Kd.string 9 w' w.heap.size (fun k_ => some k_ ≠ (.slice aA ak.length az : Value).ownBlock ∧ some k_ ≠ (.slice aD ap.length aC : Value).ownBlock ∧ some k_ ≠ (.slice aD ap.length aC : Value).ownBlock) bD cW) ∧ (b 3 = true → b 10 = false → Kd.R Kd.string 9 w' w.heap.size (fun k_ => some k_ ≠ (.slice aA ak.length az : Value).ownBlock ∧ some k_ ≠ (.slice aD ap.length aC : Value).ownBlock ∧ some k_ ≠ (.slice aD ap.length aC : Value).ownBlock) bE cA) ∧ (b 7 = true → Kd.R (Kd.int .u8) 5 w' w.heap.size (fun _ => True) bJ cJ) ∧ (b 9 = true → Kd.R Kd.string 9 w' w.heap.size (fun k_ => some k_ ≠ (.slice aA ak.length az : Value).ownBlock ∧ some k_ ≠ (.slice aD ap.length aC : Value).ownBlock ∧ some k_ ≠ (.slice aD ap.length aC : Value).ownBlock) bH cp) ∧ (b 10 = true → Kd.R Kd.string 9 w' w.heap.size (fun k_ => some k_ ≠ (.slice aA ak.length az : Value).ownBlock ∧ some k_ ≠ (.slice aD ap.length aC : Value).ownBlock ∧ some k_ ≠ (.slice aD ap.length aC : Value).ownBlock) bI cy) ∧ (b 11 = true → b 14 = false → Kd.R Kd.string 9 w' w.heap.size (fun k_ => some k_ ≠ (.slice aA ak.length az : Value).ownBlock ∧ some k_ ≠ (.slice aD ap.length aC : Value).ownBlock ∧ some k_ ≠ (.slice aD ap.length aC : Value).ownBlock) bw cd) ∧ (b 14 = true → b 21 = false → Kd.R Kd.string 9 w' w.heap.size (fun k_ => some k_ ≠ (.slice aA ak.length az : Value).ownBlock ∧ some k_ ≠ (.slice aD ap.length aC : Value).ownBlock ∧ some k_ ≠ (.slice aD ap.length aC : Value).ownBlock) bK cb) ∧ (b 18 = true → Kd.R (Kd.int .u8) 5 w' w.heap.size (fun _ => True) bG cG) ∧ (b 20 = true → Kd.R Kd.string 9 w' w.heap.size (fun k_ => some k_ ≠ (.slice aA ak.length az : Value).ownBlock ∧ some k_ ≠ (.slice aD ap.length aC : Value).ownBlock ∧ some k_ ≠ (.slice aD ap.length aC : Value).ownBlock) bF b1) ∧ (b 21 = true → Kd.R Kd.string 9 w' w.heap.size (fun k_ => some k_ ≠ (.slice aA ak.length az : Value).ownBlock ∧ some k_ ≠ (.slice aD ap.length aC : Value).ownBlock ∧ some k_ ≠ (.slice aD ap.length aC : Value).ownBlock) bL cU) ∧ (b 23 = true → w'.heap[aH]? = some (.cells #[.string al, .string an, .string ao, bI] 36 (0, 0))) ∧ (b 25 = true → w'.heap[aI]? = some (.cells #[.string al, .string an, .string ao, bL] 36 (0, 0))) ∧ Sep_ w' bD bE bI bH bw bK bL bF) HT_.out HW_.out (by kernel_rfl) (by kernel_rfl) ?_ ?_ ?_
                        ·exact ⟨.bool false, .bool false, .bool false, .bool false, .bool false, .bool false, .bool false, .bool false, .bool false, .bool false, by simp only [putSel, Bool.false_eq_true, if_false], ab.out, aa.out, ac.out, ae.out, ai.out, aj.out, fun _ => av.out, fun _ => aw.out, HB.out, fun h_ => absurd h_ (by decide), fun h_ => absurd h_ (by decide), fun h_ => absurd h_ (by decide), fun h_ => absurd h_ (by decide), fun h_ => absurd h_ (by decide), fun h_ => absurd h_ (by decide), fun h_ => absurd h_ (by decide), fun h_ => absurd h_ (by decide), fun h_ => absurd h_ (by decide), fun h_ => absurd h_ (by decide), fun h_ => absurd h_ (by decide), fun h_ => absurd h_ (by decide), Sep_.init _⟩
                        ·skip
                         clear ae ai aj av aw HB ab aa ac
                         refine steps_cons ?_ ?_
                         ·rintro b a w' ⟨bD, bE, bJ, bH, bI, bw, bK, bG, bF, bL, ha, af, ag, ah, aq, ar, au, ay, ax, Q_HB, aV, aX, aJ, aN, aW, aQ, aY, aG, aP, a6, aM, aU, Q_S⟩ hb_ hon hoff
                          refine ⟨_, rfl, fun K hK => ?_⟩
                          replace ha := Aside0.mk ha
                          have ab := Aside0.mk af
                          have aa := Aside0.mk ag
                          have ac := Aside0.mk ah
                          have ae := Aside0.mk aq
                          have ai := Aside0.mk ar
                          have aj := Aside0.mk au
                          have av := am (ay (hoff 23 (by kernel_rfl)))
                          have aw := am (ax (hoff 25 (by kernel_rfl)))
                          have HB := Aside0.mk Q_HB
                          refine Kd.R_lit_step Kd.string _ 9 ?hg (N := 104) ?hd (xs := ([] : List ByteArray)) (inner := []) (ok := fun _ => True) (okp := fun _ => True) ?hr ?hp (fun _ hk => hk) trivial (Below.refl _ _) (Nat.le_refl _) (by simp) ?_; (case hd => rfl); (case hg => rfl); (case hr => first | (go_simp; done) | (go_simp; rfl)); (case hp => exact (Reps.none _ _))
                          intro bD w99 ho100 hb hg_ hnew_
                          have S_ := am (Sep_.sa1 Q_S hb.size (Kd.R_lt ho100) (like_new (Kd.R_base ho100)))
                          clear hg_ hnew_
                          (first | rw [← Ny259.out] at ho100 | (simp only [Int.reduceToNat] at ho100; rw [← Ny259.out] at ho100))
                          have n0_ := am (Kd.R_elder' (rT ab.out) (Kd.R_base ho100) hb)
                          have n1_ := am (Kd.R_elder' (rT aa.out) (Kd.R_base ho100) hb)
                          have n2_ := am (Kd.R_elder' (rT ac.out) (Kd.R_base ho100) hb)
                          have n3_ := am (Kd.R_lower (Kd.R_new' (Kd.R_new' (Kd.R_new' ho100 (Kd.R_lt (rT ab.out))) (Kd.R_lt (rT aa.out))) (Kd.R_lt (rT ac.out))) (below_size (eT HB.out)))
                          have n4_ := am (bB ae.out hb)
                          have n5_ := am (bB ai.out hb)
                          have n6_ := am (bB aj.out hb)
                          have n7_ := am (bB av.out hb)
                          have n8_ := am (bB aw.out hb)
                          have n9_ := am (sT HB.out hb)
                          have cq := fun (h0_ : b 7 = true) => (show Kd.R (Kd.int .u8) 5 w99 w.heap.size (fun _ => True) bJ cJ from by first | exact (Kd.R_below (by (with_reducible repeat (first | apply Kd.R_alloc | apply Kd.R_drewN | apply Kd.R_drew)); exact (aJ h0_)) hb) | exact Kd.R_mono (Kd.R_below (by (with_reducible repeat (first | apply Kd.R_alloc | apply Kd.R_drewN | apply Kd.R_drew)); exact (aJ h0_)) hb) (fun _ h_ => by first | trivial | exact h_ | exact h_.1))
                          have cr := fun (h0_ : b 9 = true) => (show Kd.R Kd.string 9 w99 w.heap.size (fun k_ => some k_ ≠ (.slice aA ak.length az : Value).ownBlock ∧ some k_ ≠ (.slice aD ap.length aC : Value).ownBlock ∧ some k_ ≠ (.slice aD ap.length aC : Value).ownBlock) bH cp from by first | exact (Kd.R_elder' (by (with_reducible repeat (first | apply Kd.R_alloc | apply Kd.R_drewN | apply Kd.R_drew)); exact (aN h0_)) (Kd.R_base ho100) hb) | exact Kd.R_mono (Kd.R_elder' (by (with_reducible repeat (first | apply Kd.R_alloc | apply Kd.R_drewN | apply Kd.R_drew)); exact (aN h0_)) (Kd.R_base ho100) hb) (fun _ h_ => by first | trivial | exact h_ | exact h_.1))
                          have b9 := fun (h0_ : b 11 = true) (h1_ : b 14 = false) => (show Kd.R Kd.string 9 w99 w.heap.size (fun k_ => some k_ ≠ (.slice aA ak.length az : Value).ownBlock ∧ some k_ ≠ (.slice aD ap.length aC : Value).ownBlock ∧ some k_ ≠ (.slice aD ap.length aC : Value).ownBlock) bw cd from by first | exact (Kd.R_elder' (by (with_reducible repeat (first | apply Kd.R_alloc | apply Kd.R_drewN | apply Kd.R_drew)); exact (aQ h0_ h1_)) (Kd.R_base ho100) hb) | exact Kd.R_mono (Kd.R_elder' (by (with_reducible repeat (first | apply Kd.R_alloc | apply Kd.R_drewN | apply Kd.R_drew)); exact (aQ h0_ h1_)) (Kd.R_base ho100) hb) (fun _ h_ => by first | trivial | exact h_ | exact h_.1))
                          have b_ := fun (h0_ : b 18 = true) => (show Kd.R (Kd.int .u8) 5 w99 w.heap.size (fun _ => True) bG cG from by first | exact (Kd.R_below (by (with_reducible repeat (first | apply Kd.R_alloc | apply Kd.R_drewN | apply Kd.R_drew)); exact (aG h0_)) hb) | exact Kd.R_mono (Kd.R_below (by (with_reducible repeat (first | apply Kd.R_alloc | apply Kd.R_drewN | apply Kd.R_drew)); exact (aG h0_)) hb) (fun _ h_ => by first | trivial | exact h_ | exact h_.1))
                          have ca := fun (h0_ : b 20 = true) => (show Kd.R Kd.string 9 w99 w.heap.size (fun k_ => some k_ ≠ (.slice aA ak.length az : Value).ownBlock ∧ some k_ ≠ (.slice aD ap.length aC : Value).ownBlock ∧ some k_ ≠ (.slice aD ap.length aC : Value).ownBlock) bF b1 from by first | exact (Kd.R_elder' (by (with_reducible repeat (first | apply Kd.R_alloc | apply Kd.R_drewN | apply Kd.R_drew)); exact (aP h0_)) (Kd.R_base ho100) hb) | exact Kd.R_mono (Kd.R_elder' (by (with_reducible repeat (first | apply Kd.R_alloc | apply Kd.R_drewN | apply Kd.R_drew)); exact (aP h0_)) (Kd.R_base ho100) hb) (fun _ h_ => by first | trivial | exact h_ | exact h_.1))
                          clear ab aa ac ae ai aj av aw HB
                          have ab := n0_
                          have aa := n1_
                          have ac := n2_
                          have co := n3_
                          have ae := n4_
                          have ai := n5_
                          have aj := n6_
                          have av := n7_
                          have aw := n8_
                          have HB := n9_
                          clear n0_ n1_ n2_ n3_ n4_ n5_ n6_ n7_ n8_ n9_ hb ho100
                          refine hK.out _ _ ⟨bD, bE, bJ, bH, bI, bw, bK, bG, bF, bL, (by rw [ha.out]; exact putSel_upk 0 hb_ rfl rfl rfl), (by (with_reducible repeat (first | apply Kd.R_alloc | apply Kd.R_drewN | apply Kd.R_drew)); exact Kd.R_mono ab.out (fun _ hk => by (with_reducible first | exact hk | exact hk.1 | exact ⟨hk.1.1.2, hk.1.2, hk.2⟩ | exact hk.1.1 | (simp only [hk, ne_eq, not_false_eq_true, and_self])))), (by (with_reducible repeat (first | apply Kd.R_alloc | apply Kd.R_drewN | apply Kd.R_drew)); exact Kd.R_mono aa.out (fun _ hk => by (with_reducible first | exact hk | exact hk.1 | exact ⟨hk.1.1.2, hk.1.2, hk.2⟩ | exact hk.1.1 | (simp only [hk, ne_eq, not_false_eq_true, and_self])))), (by (with_reducible repeat (first | apply Kd.R_alloc | apply Kd.R_drewN | apply Kd.R_drew)); exact Kd.R_mono ac.out (fun _ hk => by (with_reducible first | exact hk | exact hk.1 | exact ⟨hk.1.1.2, hk.1.2, hk.2⟩ | exact hk.1.1 | (simp only [hk, ne_eq, not_false_eq_true, and_self])))), (bT ae.out), (bT ai.out), (bT aj.out), fun _ => (bT av.out), fun _ => (bT aw.out), (eT HB.out), fun _ _ => (by (with_reducible repeat (first | apply Kd.R_alloc | apply Kd.R_drewN | apply Kd.R_drew)); exact Kd.R_mono co.out (fun _ hk => by (with_reducible first | exact hk | exact hk.1 | exact ⟨hk.1.1.2, hk.1.2, hk.2⟩ | exact hk.1.1 | (simp only [hk, ne_eq, not_false_eq_true, and_self])))), fun h0_ _ => xo_ (hoff 3 (by kernel_rfl)) h0_, cq, cr, xo_ (hoff 10 (by kernel_rfl)), b9, fun h0_ _ => xo_ (hoff 14 (by kernel_rfl)) h0_, b_, ca, xo_ (hoff 21 (by kernel_rfl)), xo_ (hoff 23 (by kernel_rfl)), xo_ (hoff 25 (by kernel_rfl)), S_.out⟩
                         refine steps_cons ?_ ?_
                         ·rintro b a w' ⟨bD, bE, bJ, bH, bI, bw, bK, bG, bF, bL, ha, af, ag, ah, aq, ar, au, ay, ax, Q_HB, aV, aX, aJ, aN, aW, aQ, aY, aG, aP, a6, aM, aU, Q_S⟩ hb_ hon hoff
                          refine ⟨_, rfl, fun K hK => ?_⟩
                          have e105 : a.tmps[105]? = some (.pointer (some ⟨aK, 3, none⟩)) := by rw [ha]; exact (putSel_off rfl).trans rfl
                          replace ha := Aside0.mk ha
                          have ab := Aside0.mk af
                          have aa := Aside0.mk ag
                          have ac := Aside0.mk ah
                          have ae := Aside0.mk aq
                          have ai := Aside0.mk ar
                          have aj := Aside0.mk au
                          have av := am (ay (hoff 23 (by kernel_rfl)))
                          have aw := am (ax (hoff 25 (by kernel_rfl)))
                          have HB := Aside0.mk Q_HB
                          have hc0_ : w'.cell? ⟨aK, 0, none⟩ = some (.string al) := cT ae 0
                          have hc1_ : w'.cell? ⟨aK, 1, none⟩ = some (.string an) := cT ae 1
                          have hc2_ : w'.cell? ⟨aK, 2, none⟩ = some (.string ao) := cT ae 2
                          have hc3_ : w'.cell? ⟨aK, 3, none⟩ = some (.slice aA ak.length az) := cT ae 3
                          refine value_ (w1 := w') (v := .slice aA ak.length az) (by rfl) rfl ?_ ?_
                          ·go_simp
                           (try simp only [i64_w])
                           try rfl
                          refine hK.out _ _ ⟨bD, bE, bJ, bH, bI, bw, bK, bG, bF, bL, (by rw [ha.out]; exact putSel_upk 1 hb_ rfl rfl rfl), af, ag, ah, aq, ar, au, ay, ax, Q_HB, aV, fun h0_ _ => xo_ (hoff 3 (by kernel_rfl)) h0_, aJ, aN, xo_ (hoff 10 (by kernel_rfl)), aQ, fun h0_ _ => xo_ (hoff 14 (by kernel_rfl)) h0_, aG, aP, xo_ (hoff 21 (by kernel_rfl)), xo_ (hoff 23 (by kernel_rfl)), xo_ (hoff 25 (by kernel_rfl)), Q_S⟩
                         refine steps_cons ?_ ?_
                         ·rintro b a w' ⟨bD, bE, bJ, bH, bI, bw, bK, bG, bF, bL, ha, af, ag, ah, aq, ar, au, ay, ax, Q_HB, aV, aX, aJ, aN, aW, aQ, aY, aG, aP, a6, aM, aU, Q_S⟩ hb_ hon hoff
                          refine ⟨_, rfl, fun K hK => ?_⟩
                          have e104 : a.tmps[104]? = some (bD) := by rw [ha]; exact putSel_on (e := (0, 104, bD)) 0 rfl rfl (hon 0 (by kernel_rfl)) rfl
                          have e106 : a.tmps[106]? = some (.slice aA ak.length az) := by rw [ha]; exact putSel_on (e := (2, 106, .slice aA ak.length az)) 1 rfl rfl (hon 2 (by kernel_rfl)) rfl
                          replace ha := Aside0.mk ha
                          have ab := Aside0.mk af
                          have aa := Aside0.mk ag
                          have ac := Aside0.mk ah
                          have ae := Aside0.mk aq
                          have ai := Aside0.mk ar
                          have aj := Aside0.mk au
                          have av := am (ay (hoff 23 (by kernel_rfl)))
                          have aw := am (ax (hoff 25 (by kernel_rfl)))
                          have HB := Aside0.mk Q_HB
                          have co := am (aV (hon 0 (by kernel_rfl)) hb_)
                          refine Kd.R_append_rows_step Kd.string (w0 := w) w.heap.size (by rfl) (.tmp 104) (.tmp 106) 29 9 (.string ⟨#[]⟩) 16 rfl Tryd.underlying29 info9 rfl (by decide) (by omega) bD cW ak _ _ _ (fun k_ => some k_ ≠ (.slice aA ak.length az : Value).ownBlock ∧ some k_ ≠ (.slice aD ap.length aC : Value).ownBlock ∧ some k_ ≠ (.slice aD ap.length aC : Value).ownBlock) (fun _ => False) (evq_ e104) (evq_ e106) ?aO ?aR (fun _ _ h => h) (fun _ h => h.elim) ?aF ?aB ?aS ?aL ?_
                          (case aR => repeat (first | exact (Kd.R_reads' ab.out).2.2 | (with_reducible refine Kd.C_alloc ?_ _) | (with_reducible refine Kd.C_drewN ?_ _) | (with_reducible refine Kd.C_drew ?_)))
                          (case aB => exact (eT HB.out))
                          (case aF => exact (fun k_ hk => ⟨Kd.fresh' (Kd.R_lt (rT ab.out)) k_ hk, Kd.fresh' (Kd.R_lt (rT aa.out)) k_ hk, Kd.fresh' (Kd.R_lt (rT ac.out)) k_ hk⟩))
                          (case aO => exact (rT co.out))
                          (case aS => exact (below_size (eT HB.out)))
                          (case aL => have := LMc69.out; omega)
                          intro bE cH ho hb hg hat
                          have S_ := am (Sep_.sa2 Q_S hg.size (Kd.R_lt ho) (like_at hat))
                          rw [← Ny262.out] at ho
                          have n0_ := am (Kd.R_after (by (with_reducible repeat (first | apply Kd.R_alloc | apply Kd.R_drewN | apply Kd.R_drew)); exact R_sepO ab.out (fun k hk => ((co.out.1 k hk).1))) hg hat)
                          have n1_ := am (Kd.R_after (by (with_reducible repeat (first | apply Kd.R_alloc | apply Kd.R_drewN | apply Kd.R_drew)); exact R_sepO aa.out (fun k hk => ((co.out.1 k hk).2.1))) hg hat)
                          have n2_ := am (Kd.R_after (by (with_reducible repeat (first | apply Kd.R_alloc | apply Kd.R_drewN | apply Kd.R_drew)); exact R_sepO ac.out (fun k hk => ((co.out.1 k hk).2.2))) hg hat)
                          have n3_ := am (blk_grown (g := aK) (o := .cells #[.string al, .string an, .string ao, .slice aA ak.length az] 36 (0, 0)) (bT ae.out) hg (Kd.R_ne co.out ae.out (by decide)))
                          have n4_ := am (blk_grown (g := aZ) (o := .cells #[.string al, .string an, .string ao, .slice aD ap.length aC] 36 (0, 0)) (bT ai.out) hg (Kd.R_ne co.out ai.out (by decide)))
                          have n5_ := am (blk_grown (g := aE) (o := .cells #[.string al, .string an, .string b4, .slice aD ap.length aC] 36 (0, 0)) (bT aj.out) hg (Kd.R_ne co.out aj.out (by decide)))
                          have n6_ := am (blk_grown (g := aH) (o := .cells #[.string al, .string an, .string ao, .slice aA ak.length az] 36 (0, 0)) (bT av.out) hg (Kd.R_ne co.out av.out (by decide)))
                          have n7_ := am (blk_grown (g := aI) (o := .cells #[.string al, .string an, .string ao, .slice aA ak.length az] 36 (0, 0)) (bT aw.out) hg (Kd.R_ne co.out aw.out (by decide)))
                          have n8_ := am (hb)
                          have n9_ := am (ho)
                          have cq := fun (h0_ : b 7 = true) => (show Kd.R (Kd.int .u8) 5 cH w.heap.size (fun _ => True) bJ cJ from by first | exact (Kd.R_over' (by (with_reducible repeat (first | apply Kd.R_alloc | apply Kd.R_drewN | apply Kd.R_drew)); exact (aJ h0_)) (Kd.R_typed (rT co.out)) (by decide) hg) | exact Kd.R_mono (Kd.R_over' (by (with_reducible repeat (first | apply Kd.R_alloc | apply Kd.R_drewN | apply Kd.R_drew)); exact (aJ h0_)) (Kd.R_typed (rT co.out)) (by decide) hg) (fun _ h_ => by first | trivial | exact h_ | exact h_.1))
                          have cr := fun (h0_ : b 9 = true) => (show Kd.R Kd.string 9 cH w.heap.size (fun k_ => some k_ ≠ (.slice aA ak.length az : Value).ownBlock ∧ some k_ ≠ (.slice aD ap.length aC : Value).ownBlock ∧ some k_ ≠ (.slice aD ap.length aC : Value).ownBlock) bH cp from Kd.R_mono (Kd.R_after (by (with_reducible repeat (first | apply Kd.R_alloc | apply Kd.R_drewN | apply Kd.R_drew)); exact R_sepO (aN h0_) (Q_S.ad _ (by simp) _ (by simp))) hg hat) (fun _ h_ => h_.1))
                          have b9 := fun (h0_ : b 11 = true) (h1_ : b 14 = false) => (show Kd.R Kd.string 9 cH w.heap.size (fun k_ => some k_ ≠ (.slice aA ak.length az : Value).ownBlock ∧ some k_ ≠ (.slice aD ap.length aC : Value).ownBlock ∧ some k_ ≠ (.slice aD ap.length aC : Value).ownBlock) bw cd from Kd.R_mono (Kd.R_after (by (with_reducible repeat (first | apply Kd.R_alloc | apply Kd.R_drewN | apply Kd.R_drew)); exact R_sepO (aQ h0_ h1_) (Q_S.ad _ (by simp) _ (by simp))) hg hat) (fun _ h_ => h_.1))
                          have b_ := fun (h0_ : b 18 = true) => (show Kd.R (Kd.int .u8) 5 cH w.heap.size (fun _ => True) bG cG from by first | exact (Kd.R_over' (by (with_reducible repeat (first | apply Kd.R_alloc | apply Kd.R_drewN | apply Kd.R_drew)); exact (aG h0_)) (Kd.R_typed (rT co.out)) (by decide) hg) | exact Kd.R_mono (Kd.R_over' (by (with_reducible repeat (first | apply Kd.R_alloc | apply Kd.R_drewN | apply Kd.R_drew)); exact (aG h0_)) (Kd.R_typed (rT co.out)) (by decide) hg) (fun _ h_ => by first | trivial | exact h_ | exact h_.1))
                          have ca := fun (h0_ : b 20 = true) => (show Kd.R Kd.string 9 cH w.heap.size (fun k_ => some k_ ≠ (.slice aA ak.length az : Value).ownBlock ∧ some k_ ≠ (.slice aD ap.length aC : Value).ownBlock ∧ some k_ ≠ (.slice aD ap.length aC : Value).ownBlock) bF b1 from Kd.R_mono (Kd.R_after (by (with_reducible repeat (first | apply Kd.R_alloc | apply Kd.R_drewN | apply Kd.R_drew)); exact R_sepO (aP h0_) (Q_S.ad _ (by simp) _ (by simp))) hg hat) (fun _ h_ => h_.1))
                          clear ab aa ac ae ai aj av aw HB co
                          have ab := n0_
                          have aa := n1_
                          have ac := n2_
                          have ae := n3_
                          have ai := n4_
                          have aj := n5_
                          have av := n6_
                          have aw := n7_
                          have HB := n8_
                          have cv := n9_
                          clear n0_ n1_ n2_ n3_ n4_ n5_ n6_ n7_ n8_ n9_ ho hb hg hat
                          refine hK.out _ _ ⟨bD, bE, bJ, bH, bI, bw, bK, bG, bF, bL, (by rw [ha.out]; exact putSel_upk 2 hb_ rfl rfl rfl), (by (with_reducible repeat (first | apply Kd.R_alloc | apply Kd.R_drewN | apply Kd.R_drew)); exact Kd.R_mono ab.out (fun _ hk => by (with_reducible first | exact hk | exact hk.1 | exact ⟨hk.1.1.2, hk.1.2, hk.2⟩ | exact hk.1.1 | (simp only [hk, ne_eq, not_false_eq_true, and_self])))), (by (with_reducible repeat (first | apply Kd.R_alloc | apply Kd.R_drewN | apply Kd.R_drew)); exact Kd.R_mono aa.out (fun _ hk => by (with_reducible first | exact hk | exact hk.1 | exact ⟨hk.1.1.2, hk.1.2, hk.2⟩ | exact hk.1.1 | (simp only [hk, ne_eq, not_false_eq_true, and_self])))), (by (with_reducible repeat (first | apply Kd.R_alloc | apply Kd.R_drewN | apply Kd.R_drew)); exact Kd.R_mono ac.out (fun _ hk => by (with_reducible first | exact hk | exact hk.1 | exact ⟨hk.1.1.2, hk.1.2, hk.2⟩ | exact hk.1.1 | (simp only [hk, ne_eq, not_false_eq_true, and_self])))), (bT ae.out), (bT ai.out), (bT aj.out), fun _ => (bT av.out), fun _ => (bT aw.out), (eT HB.out), fun _ h1_ => absurd ((up_self b 3).symm.trans h1_) (by decide), fun _ _ => (rT cv.out), cq, cr, xo_ (hoff 10 (by kernel_rfl)), b9, fun h0_ _ => xo_ (hoff 14 (by kernel_rfl)) h0_, b_, ca, xo_ (hoff 21 (by kernel_rfl)), xo_ (hoff 23 (by kernel_rfl)), xo_ (hoff 25 (by kernel_rfl)), S_.out⟩
                         refine steps_cons ?_ ?_
                         ·rintro b a w' ⟨bD, bE, bJ, bH, bI, bw, bK, bG, bF, bL, ha, af, ag, ah, aq, ar, au, ay, ax, Q_HB, aV, aX, aJ, aN, aW, aQ, aY, aG, aP, a6, aM, aU, Q_S⟩ hb_ hon hoff
                          refine ⟨_, rfl, fun K hK => ?_⟩
                          have e108 : a.tmps[108]? = some (.int .u8 a2) := by rw [ha]; exact (putSel_off rfl).trans rfl
                          replace ha := Aside0.mk ha
                          have ab := Aside0.mk af
                          have aa := Aside0.mk ag
                          have ac := Aside0.mk ah
                          have ae := Aside0.mk aq
                          have ai := Aside0.mk ar
                          have aj := Aside0.mk au
                          have av := am (ay (hoff 23 (by kernel_rfl)))
                          have aw := am (ax (hoff 25 (by kernel_rfl)))
                          have HB := Aside0.mk Q_HB
                          refine value_ (w1 := w') (v := .int .u8 (Int.tmod a2 9)) (by rfl) rfl ?_ ?_
                          ·go_simp
                           (try simp only [i64_w])
                           try rfl
                          refine hK.out _ _ ⟨bD, bE, bJ, bH, bI, bw, bK, bG, bF, bL, (by rw [ha.out]; exact putSel_upk 3 hb_ rfl rfl rfl), af, ag, ah, aq, ar, au, ay, ax, Q_HB, aV, aX, xo_ (hoff 7 (by kernel_rfl)), xo_ (hoff 9 (by kernel_rfl)), xo_ (hoff 10 (by kernel_rfl)), aQ, fun h0_ _ => xo_ (hoff 14 (by kernel_rfl)) h0_, aG, aP, xo_ (hoff 21 (by kernel_rfl)), xo_ (hoff 23 (by kernel_rfl)), xo_ (hoff 25 (by kernel_rfl)), Q_S⟩
                         refine steps_cons ?_ ?_
                         ·rintro b a w' ⟨bD, bE, bJ, bH, bI, bw, bK, bG, bF, bL, ha, af, ag, ah, aq, ar, au, ay, ax, Q_HB, aV, aX, aJ, aN, aW, aQ, aY, aG, aP, a6, aM, aU, Q_S⟩ hb_ hon hoff
                          refine ⟨_, rfl, fun K hK => ?_⟩
                          have e109 : a.tmps[109]? = some (.int .u8 (Int.tmod a2 9)) := by rw [ha]; exact putSel_on (e := (5, 109, .int .u8 (Int.tmod a2 9))) 3 rfl rfl (hon 5 (by kernel_rfl)) rfl
                          replace ha := Aside0.mk ha
                          have ab := Aside0.mk af
                          have aa := Aside0.mk ag
                          have ac := Aside0.mk ah
                          have ae := Aside0.mk aq
                          have ai := Aside0.mk ar
                          have aj := Aside0.mk au
                          have av := am (ay (hoff 23 (by kernel_rfl)))
                          have aw := am (ax (hoff 25 (by kernel_rfl)))
                          have HB := Aside0.mk Q_HB
                          refine value_ (w1 := w') (v := .int .u8 ((49 + (Int.tmod a2 9)) % 256)) (by rfl) rfl ?_ ?_
                          ·go_simp
                           (try simp only [i64_w])
                           try rfl
                          refine hK.out _ _ ⟨bD, bE, bJ, bH, bI, bw, bK, bG, bF, bL, (by rw [ha.out]; exact putSel_upk 4 hb_ rfl rfl rfl), af, ag, ah, aq, ar, au, ay, ax, Q_HB, aV, aX, xo_ (hoff 7 (by kernel_rfl)), xo_ (hoff 9 (by kernel_rfl)), xo_ (hoff 10 (by kernel_rfl)), aQ, fun h0_ _ => xo_ (hoff 14 (by kernel_rfl)) h0_, aG, aP, xo_ (hoff 21 (by kernel_rfl)), xo_ (hoff 23 (by kernel_rfl)), xo_ (hoff 25 (by kernel_rfl)), Q_S⟩
                         refine steps_cons ?_ ?_
                         ·rintro b a w' ⟨bD, bE, bJ, bH, bI, bw, bK, bG, bF, bL, ha, af, ag, ah, aq, ar, au, ay, ax, Q_HB, aV, aX, aJ, aN, aW, aQ, aY, aG, aP, a6, aM, aU, Q_S⟩ hb_ hon hoff
                          refine ⟨_, rfl, fun K hK => ?_⟩
                          have e110 : a.tmps[110]? = some (.int .u8 ((49 + (Int.tmod a2 9)) % 256)) := by rw [ha]; exact putSel_on (e := (6, 110, .int .u8 ((49 + (Int.tmod a2 9)) % 256))) 4 rfl rfl (hon 6 (by kernel_rfl)) rfl
                          replace ha := Aside0.mk ha
                          have ab := Aside0.mk af
                          have aa := Aside0.mk ag
                          have ac := Aside0.mk ah
                          have ae := Aside0.mk aq
                          have ai := Aside0.mk ar
                          have aj := Aside0.mk au
                          have av := am (ay (hoff 23 (by kernel_rfl)))
                          have aw := am (ax (hoff 25 (by kernel_rfl)))
                          have HB := Aside0.mk Q_HB
                          refine Kd.R_lit_step (Kd.int .u8) _ 5 ?hg (N := 111) ?hd (xs := ([(49 + (Int.tmod a2 9)) % 256] : List Int)) (inner := [.int .u8 ((49 + (Int.tmod a2 9)) % 256)]) (ok := fun _ => True) (okp := fun _ => True) ?hr ?hp (fun _ hk => hk) trivial (Below.refl _ _) (Nat.le_refl _) (by simp) ?_; (case hd => rfl); (case hg => rfl); (case hr => first | (go_simp; done) | (go_simp; rfl)); (case hp => exact (Reps.one (show Kd.M (Kd.int .u8) _ _ _ ((49 + (Int.tmod a2 9)) % 256) [.int .u8 ((49 + (Int.tmod a2 9)) % 256)] from rfl) (Reps.none _ _)))
                          intro bJ w99 ho100 hb hg_ hnew_
                          have S_ := am (Q_S.mono hb.size)
                          clear hg_ hnew_
                          (first | rw [← Ny265.out] at ho100 | (simp only [Int.reduceToNat] at ho100; rw [← Ny265.out] at ho100))
                          have n0_ := am (rB ab.out hb)
                          have n1_ := am (rB aa.out hb)
                          have n2_ := am (rB ac.out hb)
                          have n3_ := am (Kd.R_lower ho100 (below_size (eT HB.out)))
                          have n4_ := am (bB ae.out hb)
                          have n5_ := am (bB ai.out hb)
                          have n6_ := am (bB aj.out hb)
                          have n7_ := am (bB av.out hb)
                          have n8_ := am (bB aw.out hb)
                          have n9_ := am (sT HB.out hb)
                          have ct := fun (h0_ : b 0 = true) (h1_ : b 3 = false) => (show Kd.R Kd.string 9 w99 w.heap.size (fun k_ => some k_ ≠ (.slice aA ak.length az : Value).ownBlock ∧ some k_ ≠ (.slice aD ap.length aC : Value).ownBlock ∧ some k_ ≠ (.slice aD ap.length aC : Value).ownBlock) bD cW from by first | exact (Kd.R_below (by (with_reducible repeat (first | apply Kd.R_alloc | apply Kd.R_drewN | apply Kd.R_drew)); exact (aV h0_ h1_)) hb) | exact Kd.R_mono (Kd.R_below (by (with_reducible repeat (first | apply Kd.R_alloc | apply Kd.R_drewN | apply Kd.R_drew)); exact (aV h0_ h1_)) hb) (fun _ h_ => by first | trivial | exact h_ | exact h_.1))
                          have cu := fun (h0_ : b 3 = true) (h1_ : b 10 = false) => (show Kd.R Kd.string 9 w99 w.heap.size (fun k_ => some k_ ≠ (.slice aA ak.length az : Value).ownBlock ∧ some k_ ≠ (.slice aD ap.length aC : Value).ownBlock ∧ some k_ ≠ (.slice aD ap.length aC : Value).ownBlock) bE cA from by first | exact (Kd.R_below (by (with_reducible repeat (first | apply Kd.R_alloc | apply Kd.R_drewN | apply Kd.R_drew)); exact (aX h0_ h1_)) hb) | exact Kd.R_mono (Kd.R_below (by (with_reducible repeat (first | apply Kd.R_alloc | apply Kd.R_drewN | apply Kd.R_drew)); exact (aX h0_ h1_)) hb) (fun _ h_ => by first | trivial | exact h_ | exact h_.1))
                          have b9 := fun (h0_ : b 11 = true) (h1_ : b 14 = false) => (show Kd.R Kd.string 9 w99 w.heap.size (fun k_ => some k_ ≠ (.slice aA ak.length az : Value).ownBlock ∧ some k_ ≠ (.slice aD ap.length aC : Value).ownBlock ∧ some k_ ≠ (.slice aD ap.length aC : Value).ownBlock) bw cd from by first | exact (Kd.R_below (by (with_reducible repeat (first | apply Kd.R_alloc | apply Kd.R_drewN | apply Kd.R_drew)); exact (aQ h0_ h1_)) hb) | exact Kd.R_mono (Kd.R_below (by (with_reducible repeat (first | apply Kd.R_alloc | apply Kd.R_drewN | apply Kd.R_drew)); exact (aQ h0_ h1_)) hb) (fun _ h_ => by first | trivial | exact h_ | exact h_.1))
                          have b_ := fun (h0_ : b 18 = true) => (show Kd.R (Kd.int .u8) 5 w99 w.heap.size (fun _ => True) bG cG from by first | exact (Kd.R_elder' (by (with_reducible repeat (first | apply Kd.R_alloc | apply Kd.R_drewN | apply Kd.R_drew)); exact (aG h0_)) (Kd.R_base ho100) hb) | exact Kd.R_mono (Kd.R_elder' (by (with_reducible repeat (first | apply Kd.R_alloc | apply Kd.R_drewN | apply Kd.R_drew)); exact (aG h0_)) (Kd.R_base ho100) hb) (fun _ h_ => by first | trivial | exact h_ | exact h_.1))
                          have ca := fun (h0_ : b 20 = true) => (show Kd.R Kd.string 9 w99 w.heap.size (fun k_ => some k_ ≠ (.slice aA ak.length az : Value).ownBlock ∧ some k_ ≠ (.slice aD ap.length aC : Value).ownBlock ∧ some k_ ≠ (.slice aD ap.length aC : Value).ownBlock) bF b1 from by first | exact (Kd.R_below (by (with_reducible repeat (first | apply Kd.R_alloc | apply Kd.R_drewN | apply Kd.R_drew)); exact (aP h0_)) hb) | exact Kd.R_mono (Kd.R_below (by (with_reducible repeat (first | apply Kd.R_alloc | apply Kd.R_drewN | apply Kd.R_drew)); exact (aP h0_)) hb) (fun _ h_ => by first | trivial | exact h_ | exact h_.1))
                          clear ab aa ac ae ai aj av aw HB
                          have ab := n0_
                          have aa := n1_
                          have ac := n2_
                          have bC := n3_
                          have ae := n4_
                          have ai := n5_
                          have aj := n6_
                          have av := n7_
                          have aw := n8_
                          have HB := n9_
                          clear n0_ n1_ n2_ n3_ n4_ n5_ n6_ n7_ n8_ n9_ hb ho100
                          refine hK.out _ _ ⟨bD, bE, bJ, bH, bI, bw, bK, bG, bF, bL, (by rw [ha.out]; exact putSel_upk 5 hb_ rfl rfl rfl), (rT ab.out), (rT aa.out), (rT ac.out), (bT ae.out), (bT ai.out), (bT aj.out), fun _ => (bT av.out), fun _ => (bT aw.out), (eT HB.out), ct, cu, fun _ => (rT bC.out), xo_ (hoff 9 (by kernel_rfl)), xo_ (hoff 10 (by kernel_rfl)), b9, fun h0_ _ => xo_ (hoff 14 (by kernel_rfl)) h0_, b_, ca, xo_ (hoff 21 (by kernel_rfl)), xo_ (hoff 23 (by kernel_rfl)), xo_ (hoff 25 (by kernel_rfl)), S_.out⟩
                         refine steps_cons ?_ ?_
                         ·rintro b a w' ⟨bD, bE, bJ, bH, bI, bw, bK, bG, bF, bL, ha, af, ag, ah, aq, ar, au, ay, ax, Q_HB, aV, aX, aJ, aN, aW, aQ, aY, aG, aP, a6, aM, aU, Q_S⟩ hb_ hon hoff
                          refine ⟨_, rfl, fun K hK => ?_⟩
                          have e111 : a.tmps[111]? = some (bJ) := by rw [ha]; exact putSel_on (e := (7, 111, bJ)) 5 rfl rfl (hon 7 (by kernel_rfl)) rfl
                          replace ha := Aside0.mk ha
                          have ab := Aside0.mk af
                          have aa := Aside0.mk ag
                          have ac := Aside0.mk ah
                          have ae := Aside0.mk aq
                          have ai := Aside0.mk ar
                          have aj := Aside0.mk au
                          have av := am (ay (hoff 23 (by kernel_rfl)))
                          have aw := am (ax (hoff 25 (by kernel_rfl)))
                          have HB := Aside0.mk Q_HB
                          have bC := am (aJ (hon 7 (by kernel_rfl)))
                          obtain ⟨gu, gv, eo_⟩ := Kd.R_slice bC.out
                          subst eo_
                          have hcv_ := own_string (P := Tryd.prog) Tryd.underlying47 Tryd.underlying5 Tryd.underlying9 (Kd.own_of_R bC.out)
                          refine value_ (w1 := w') (v := .string (strOfNums cJ)) (by rfl) rfl ?_ ?_
                          ·go_simp
                           (try simp only [i64_w])
                           try rfl
                          refine hK.out _ _ ⟨bD, bE, .slice gu cJ.length gv, bH, bI, bw, bK, bG, bF, bL, (by rw [ha.out]; exact putSel_upk 6 hb_ rfl rfl rfl), af, ag, ah, aq, ar, au, ay, ax, Q_HB, aV, aX, aJ, xo_ (hoff 9 (by kernel_rfl)), xo_ (hoff 10 (by kernel_rfl)), aQ, fun h0_ _ => xo_ (hoff 14 (by kernel_rfl)) h0_, aG, aP, xo_ (hoff 21 (by kernel_rfl)), xo_ (hoff 23 (by kernel_rfl)), xo_ (hoff 25 (by kernel_rfl)), Q_S⟩
                         refine steps_cons ?_ ?_
                         ·rintro b a w' ⟨bD, bE, bJ, bH, bI, bw, bK, bG, bF, bL, ha, af, ag, ah, aq, ar, au, ay, ax, Q_HB, aV, aX, aJ, aN, aW, aQ, aY, aG, aP, a6, aM, aU, Q_S⟩ hb_ hon hoff
                          refine ⟨_, rfl, fun K hK => ?_⟩
                          have e112 : a.tmps[112]? = some (.string (strOfNums cJ)) := by rw [ha]; exact putSel_on (e := (8, 112, .string (strOfNums cJ))) 6 rfl rfl (hon 8 (by kernel_rfl)) rfl
                          replace ha := Aside0.mk ha
                          have ab := Aside0.mk af
                          have aa := Aside0.mk ag
                          have ac := Aside0.mk ah
                          have ae := Aside0.mk aq
                          have ai := Aside0.mk ar
                          have aj := Aside0.mk au
                          have av := am (ay (hoff 23 (by kernel_rfl)))
                          have aw := am (ax (hoff 25 (by kernel_rfl)))
                          have HB := Aside0.mk Q_HB
                          have bC := am (aJ (hon 7 (by kernel_rfl)))
                          refine Kd.R_lit_step Kd.string _ 9 ?hg (N := 113) ?hd (xs := ([strOfNums cJ] : List ByteArray)) (inner := [.string (strOfNums cJ)]) (ok := fun _ => True) (okp := fun _ => True) ?hr ?hp (fun _ hk => hk) trivial (Below.refl _ _) (Nat.le_refl _) (by simp) ?_; (case hd => rfl); (case hg => rfl); (case hr => first | (go_simp; done) | (go_simp; rfl)); (case hp => exact (Reps.one (show Kd.M Kd.string _ _ _ (strOfNums cJ) [.string (strOfNums cJ)] from rfl) (Reps.none _ _)))
                          intro bH cH ho103 hb hg_ hnew_
                          have S_ := am (Sep_.sd Q_S hb.size (Kd.R_lt ho103) (Kd.R_base ho103))
                          clear hg_ hnew_
                          (first | rw [← Ny268.out] at ho103 | (simp only [Int.reduceToNat] at ho103; rw [← Ny268.out] at ho103))
                          have n0_ := am (Kd.R_elder' (rT ab.out) (Kd.R_base ho103) hb)
                          have n1_ := am (Kd.R_elder' (rT aa.out) (Kd.R_base ho103) hb)
                          have n2_ := am (Kd.R_elder' (rT ac.out) (Kd.R_base ho103) hb)
                          have n3_ := am (rB bC.out hb)
                          have n4_ := am (Kd.R_lower (Kd.R_new' (Kd.R_new' (Kd.R_new' ho103 (Kd.R_lt (rT ab.out))) (Kd.R_lt (rT aa.out))) (Kd.R_lt (rT ac.out))) (below_size (eT HB.out)))
                          have n5_ := am (bB ae.out hb)
                          have n6_ := am (bB ai.out hb)
                          have n7_ := am (bB aj.out hb)
                          have n8_ := am (bB av.out hb)
                          have n9_ := am (bB aw.out hb)
                          have n10_ := am (sT HB.out hb)
                          have ct := fun (h0_ : b 0 = true) (h1_ : b 3 = false) => (show Kd.R Kd.string 9 cH w.heap.size (fun k_ => some k_ ≠ (.slice aA ak.length az : Value).ownBlock ∧ some k_ ≠ (.slice aD ap.length aC : Value).ownBlock ∧ some k_ ≠ (.slice aD ap.length aC : Value).ownBlock) bD cW from by first | exact (Kd.R_elder' (by (with_reducible repeat (first | apply Kd.R_alloc | apply Kd.R_drewN | apply Kd.R_drew)); exact (aV h0_ h1_)) (Kd.R_base ho103) hb) | exact Kd.R_mono (Kd.R_elder' (by (with_reducible repeat (first | apply Kd.R_alloc | apply Kd.R_drewN | apply Kd.R_drew)); exact (aV h0_ h1_)) (Kd.R_base ho103) hb) (fun _ h_ => by first | trivial | exact h_ | exact h_.1))
                          have cu := fun (h0_ : b 3 = true) (h1_ : b 10 = false) => (show Kd.R Kd.string 9 cH w.heap.size (fun k_ => some k_ ≠ (.slice aA ak.length az : Value).ownBlock ∧ some k_ ≠ (.slice aD ap.length aC : Value).ownBlock ∧ some k_ ≠ (.slice aD ap.length aC : Value).ownBlock) bE cA from by first | exact (Kd.R_elder' (by (with_reducible repeat (first | apply Kd.R_alloc | apply Kd.R_drewN | apply Kd.R_drew)); exact (aX h0_ h1_)) (Kd.R_base ho103) hb) | exact Kd.R_mono (Kd.R_elder' (by (with_reducible repeat (first | apply Kd.R_alloc | apply Kd.R_drewN | apply Kd.R_drew)); exact (aX h0_ h1_)) (Kd.R_base ho103) hb) (fun _ h_ => by first | trivial | exact h_ | exact h_.1))
                          have b9 := fun (h0_ : b 11 = true) (h1_ : b 14 = false) => (show Kd.R Kd.string 9 cH w.heap.size (fun k_ => some k_ ≠ (.slice aA ak.length az : Value).ownBlock ∧ some k_ ≠ (.slice aD ap.length aC : Value).ownBlock ∧ some k_ ≠ (.slice aD ap.length aC : Value).ownBlock) bw cd from by first | exact (Kd.R_elder' (by (with_reducible repeat (first | apply Kd.R_alloc | apply Kd.R_drewN | apply Kd.R_drew)); exact (aQ h0_ h1_)) (Kd.R_base ho103) hb) | exact Kd.R_mono (Kd.R_elder' (by (with_reducible repeat (first | apply Kd.R_alloc | apply Kd.R_drewN | apply Kd.R_drew)); exact (aQ h0_ h1_)) (Kd.R_base ho103) hb) (fun _ h_ => by first | trivial | exact h_ | exact h_.1))
                          have b_ := fun (h0_ : b 18 = true) => (show Kd.R (Kd.int .u8) 5 cH w.heap.size (fun _ => True) bG cG from by first | exact (Kd.R_below (by (with_reducible repeat (first | apply Kd.R_alloc | apply Kd.R_drewN | apply Kd.R_drew)); exact (aG h0_)) hb) | exact Kd.R_mono (Kd.R_below (by (with_reducible repeat (first | apply Kd.R_alloc | apply Kd.R_drewN | apply Kd.R_drew)); exact (aG h0_)) hb) (fun _ h_ => by first | trivial | exact h_ | exact h_.1))
                          have ca := fun (h0_ : b 20 = true) => (show Kd.R Kd.string 9 cH w.heap.size (fun k_ => some k_ ≠ (.slice aA ak.length az : Value).ownBlock ∧ some k_ ≠ (.slice aD ap.length aC : Value).ownBlock ∧ some k_ ≠ (.slice aD ap.length aC : Value).ownBlock) bF b1 from by first | exact (Kd.R_elder' (by (with_reducible repeat (first | apply Kd.R_alloc | apply Kd.R_drewN | apply Kd.R_drew)); exact (aP h0_)) (Kd.R_base ho103) hb) | exact Kd.R_mono (Kd.R_elder' (by (with_reducible repeat (first | apply Kd.R_alloc | apply Kd.R_drewN | apply Kd.R_drew)); exact (aP h0_)) (Kd.R_base ho103) hb) (fun _ h_ => by first | trivial | exact h_ | exact h_.1))
                          clear ab aa ac bC ae ai aj av aw HB
                          have ab := n0_
                          have aa := n1_
                          have ac := n2_
                          have bC := n3_
                          have bN := n4_
                          have ae := n5_
                          have ai := n6_
                          have aj := n7_
                          have av := n8_
                          have aw := n9_
                          have HB := n10_
                          clear n0_ n1_ n2_ n3_ n4_ n5_ n6_ n7_ n8_ n9_ n10_ hb ho103
                          refine hK.out _ _ ⟨bD, bE, bJ, bH, bI, bw, bK, bG, bF, bL, (by rw [ha.out]; exact putSel_upk 7 hb_ rfl rfl rfl), (by (with_reducible repeat (first | apply Kd.R_alloc | apply Kd.R_drewN | apply Kd.R_drew)); exact Kd.R_mono ab.out (fun _ hk => by (with_reducible first | exact hk | exact hk.1 | exact ⟨hk.1.1.2, hk.1.2, hk.2⟩ | exact hk.1.1 | (simp only [hk, ne_eq, not_false_eq_true, and_self])))), (by (with_reducible repeat (first | apply Kd.R_alloc | apply Kd.R_drewN | apply Kd.R_drew)); exact Kd.R_mono aa.out (fun _ hk => by (with_reducible first | exact hk | exact hk.1 | exact ⟨hk.1.1.2, hk.1.2, hk.2⟩ | exact hk.1.1 | (simp only [hk, ne_eq, not_false_eq_true, and_self])))), (by (with_reducible repeat (first | apply Kd.R_alloc | apply Kd.R_drewN | apply Kd.R_drew)); exact Kd.R_mono ac.out (fun _ hk => by (with_reducible first | exact hk | exact hk.1 | exact ⟨hk.1.1.2, hk.1.2, hk.2⟩ | exact hk.1.1 | (simp only [hk, ne_eq, not_false_eq_true, and_self])))), (bT ae.out), (bT ai.out), (bT aj.out), fun _ => (bT av.out), fun _ => (bT aw.out), (eT HB.out), ct, cu, fun _ => (rT bC.out), fun _ => (by (with_reducible repeat (first | apply Kd.R_alloc | apply Kd.R_drewN | apply Kd.R_drew)); exact Kd.R_mono bN.out (fun _ hk => by (with_reducible first | exact hk | exact hk.1 | exact ⟨hk.1.1.2, hk.1.2, hk.2⟩ | exact hk.1.1 | (simp only [hk, ne_eq, not_false_eq_true, and_self])))), xo_ (hoff 10 (by kernel_rfl)), b9, fun h0_ _ => xo_ (hoff 14 (by kernel_rfl)) h0_, b_, ca, xo_ (hoff 21 (by kernel_rfl)), xo_ (hoff 23 (by kernel_rfl)), xo_ (hoff 25 (by kernel_rfl)), S_.out⟩
                         refine steps_cons ?_ ?_
                         ·rintro b a w' ⟨bD, bE, bJ, bH, bI, bw, bK, bG, bF, bL, ha, af, ag, ah, aq, ar, au, ay, ax, Q_HB, aV, aX, aJ, aN, aW, aQ, aY, aG, aP, a6, aM, aU, Q_S⟩ hb_ hon hoff
                          refine ⟨_, rfl, fun K hK => ?_⟩
                          have e107 : a.tmps[107]? = some (bE) := by rw [ha]; exact putSel_on (e := (3, 107, bE)) 2 rfl rfl (hon 3 (by kernel_rfl)) rfl
                          have e113 : a.tmps[113]? = some (bH) := by rw [ha]; exact putSel_on (e := (9, 113, bH)) 7 rfl rfl (hon 9 (by kernel_rfl)) rfl
                          replace ha := Aside0.mk ha
                          have ab := Aside0.mk af
                          have aa := Aside0.mk ag
                          have ac := Aside0.mk ah
                          have ae := Aside0.mk aq
                          have ai := Aside0.mk ar
                          have aj := Aside0.mk au
                          have av := am (ay (hoff 23 (by kernel_rfl)))
                          have aw := am (ax (hoff 25 (by kernel_rfl)))
                          have HB := Aside0.mk Q_HB
                          have cv := am (aX (hon 3 (by kernel_rfl)) hb_)
                          have bC := am (aJ (hon 7 (by kernel_rfl)))
                          have bN := am (aN (hon 9 (by kernel_rfl)))
                          obtain ⟨gw, gx, fF⟩ := Kd.R_slice bN.out
                          (first | subst fF | (injection fF with f1_ f2_ f3_; have f4_ := f1_.symm; have f5_ := f3_.symm; clear f1_ f2_ f3_; subst f4_; subst f5_))
                          refine Kd.R_append_rows_step Kd.string (w0 := w) w.heap.size (by rfl) (.tmp 107) (.tmp 113) 29 9 (.string ⟨#[]⟩) 16 rfl Tryd.underlying29 info9 rfl (by decide) (by omega) bE cA cp _ _ _ (fun k_ => some k_ ≠ (.slice aA ak.length az : Value).ownBlock ∧ some k_ ≠ (.slice aD ap.length aC : Value).ownBlock ∧ some k_ ≠ (.slice aD ap.length aC : Value).ownBlock) (fun _ => False) (evq_ e107) (evq_ e113) ?aO ?aR (fun _ _ h => h) (fun _ h => h.elim) ?aF ?aB ?aS ?aL ?_
                          (case aR => repeat (first | exact (Kd.R_reads' bN.out).2.2 | (with_reducible refine Kd.C_alloc ?_ _) | (with_reducible refine Kd.C_drewN ?_ _) | (with_reducible refine Kd.C_drew ?_)))
                          (case aB => exact (eT HB.out))
                          (case aF => exact (fun k_ hk => ⟨Kd.fresh' (Kd.R_lt (rT ab.out)) k_ hk, Kd.fresh' (Kd.R_lt (rT aa.out)) k_ hk, Kd.fresh' (Kd.R_lt (rT ac.out)) k_ hk⟩))
                          (case aO => exact (rT cv.out))
                          (case aS => exact (below_size (eT HB.out)))
                          (case aL => have := LMc70.out; omega)
                          intro bI fT ho hb hg hat
                          have S_ := am (Sep_.sa3 Q_S hg.size (Kd.R_lt ho) (like_at hat))
                          rw [← Ny271.out] at ho
                          have n0_ := am (Kd.R_after (by (with_reducible repeat (first | apply Kd.R_alloc | apply Kd.R_drewN | apply Kd.R_drew)); exact R_sepO ab.out (fun k hk => ((cv.out.1 k hk).1))) hg hat)
                          have n1_ := am (Kd.R_after (by (with_reducible repeat (first | apply Kd.R_alloc | apply Kd.R_drewN | apply Kd.R_drew)); exact R_sepO aa.out (fun k hk => ((cv.out.1 k hk).2.1))) hg hat)
                          have n2_ := am (Kd.R_after (by (with_reducible repeat (first | apply Kd.R_alloc | apply Kd.R_drewN | apply Kd.R_drew)); exact R_sepO ac.out (fun k hk => ((cv.out.1 k hk).2.2))) hg hat)
                          have n3_ := am (blk_grown (g := aK) (o := .cells #[.string al, .string an, .string ao, .slice aA ak.length az] 36 (0, 0)) (bT ae.out) hg (Kd.R_ne cv.out ae.out (by decide)))
                          have n4_ := am (blk_grown (g := aZ) (o := .cells #[.string al, .string an, .string ao, .slice aD ap.length aC] 36 (0, 0)) (bT ai.out) hg (Kd.R_ne cv.out ai.out (by decide)))
                          have n5_ := am (blk_grown (g := aE) (o := .cells #[.string al, .string an, .string b4, .slice aD ap.length aC] 36 (0, 0)) (bT aj.out) hg (Kd.R_ne cv.out aj.out (by decide)))
                          have n6_ := am (blk_grown (g := aH) (o := .cells #[.string al, .string an, .string ao, .slice aA ak.length az] 36 (0, 0)) (bT av.out) hg (Kd.R_ne cv.out av.out (by decide)))
                          have n7_ := am (blk_grown (g := aI) (o := .cells #[.string al, .string an, .string ao, .slice aA ak.length az] 36 (0, 0)) (bT aw.out) hg (Kd.R_ne cv.out aw.out (by decide)))
                          have n8_ := am (Kd.R_over' (rT bC.out) (Kd.R_typed (rT cv.out)) (by decide) hg)
                          have n9_ := am (Kd.R_after (by (with_reducible repeat (first | apply Kd.R_alloc | apply Kd.R_drewN | apply Kd.R_drew)); exact R_sepO bN.out (Q_S.ad _ (by simp) _ (by simp))) hg hat)
                          have n10_ := am (hb)
                          have n11_ := am (ho)
                          have b9 := fun (h0_ : b 11 = true) (h1_ : b 14 = false) => (show Kd.R Kd.string 9 fT w.heap.size (fun k_ => some k_ ≠ (.slice aA ak.length az : Value).ownBlock ∧ some k_ ≠ (.slice aD ap.length aC : Value).ownBlock ∧ some k_ ≠ (.slice aD ap.length aC : Value).ownBlock) bw cd from Kd.R_mono (Kd.R_after (by (with_reducible repeat (first | apply Kd.R_alloc | apply Kd.R_drewN | apply Kd.R_drew)); exact R_sepO (aQ h0_ h1_) (Q_S.ad _ (by simp) _ (by simp))) hg hat) (fun _ h_ => h_.1))
                          have b_ := fun (h0_ : b 18 = true) => (show Kd.R (Kd.int .u8) 5 fT w.heap.size (fun _ => True) bG cG from by first | exact (Kd.R_over' (by (with_reducible repeat (first | apply Kd.R_alloc | apply Kd.R_drewN | apply Kd.R_drew)); exact (aG h0_)) (Kd.R_typed (rT cv.out)) (by decide) hg) | exact Kd.R_mono (Kd.R_over' (by (with_reducible repeat (first | apply Kd.R_alloc | apply Kd.R_drewN | apply Kd.R_drew)); exact (aG h0_)) (Kd.R_typed (rT cv.out)) (by decide) hg) (fun _ h_ => by first | trivial | exact h_ | exact h_.1))
                          have ca := fun (h0_ : b 20 = true) => (show Kd.R Kd.string 9 fT w.heap.size (fun k_ => some k_ ≠ (.slice aA ak.length az : Value).ownBlock ∧ some k_ ≠ (.slice aD ap.length aC : Value).ownBlock ∧ some k_ ≠ (.slice aD ap.length aC : Value).ownBlock) bF b1 from Kd.R_mono (Kd.R_after (by (with_reducible repeat (first | apply Kd.R_alloc | apply Kd.R_drewN | apply Kd.R_drew)); exact R_sepO (aP h0_) (Q_S.ad _ (by simp) _ (by simp))) hg hat) (fun _ h_ => h_.1))
                          clear ab aa ac ae ai aj av aw bC bN HB cv
                          have ab := n0_
                          have aa := n1_
                          have ac := n2_
                          have ae := n3_
                          have ai := n4_
                          have aj := n5_
                          have av := n6_
                          have aw := n7_
                          have bC := n8_
                          have bN := n9_
                          have HB := n10_
                          have bV := n11_
                          clear n0_ n1_ n2_ n3_ n4_ n5_ n6_ n7_ n8_ n9_ n10_ n11_ ho hb hg hat
                          refine hK.out _ _ ⟨bD, bE, bJ, .slice gw cp.length gx, bI, bw, bK, bG, bF, bL, (by rw [ha.out]; exact putSel_upk 8 hb_ rfl rfl rfl), (by (with_reducible repeat (first | apply Kd.R_alloc | apply Kd.R_drewN | apply Kd.R_drew)); exact Kd.R_mono ab.out (fun _ hk => by (with_reducible first | exact hk | exact hk.1 | exact ⟨hk.1.1.2, hk.1.2, hk.2⟩ | exact hk.1.1 | (simp only [hk, ne_eq, not_false_eq_true, and_self])))), (by (with_reducible repeat (first | apply Kd.R_alloc | apply Kd.R_drewN | apply Kd.R_drew)); exact Kd.R_mono aa.out (fun _ hk => by (with_reducible first | exact hk | exact hk.1 | exact ⟨hk.1.1.2, hk.1.2, hk.2⟩ | exact hk.1.1 | (simp only [hk, ne_eq, not_false_eq_true, and_self])))), (by (with_reducible repeat (first | apply Kd.R_alloc | apply Kd.R_drewN | apply Kd.R_drew)); exact Kd.R_mono ac.out (fun _ hk => by (with_reducible first | exact hk | exact hk.1 | exact ⟨hk.1.1.2, hk.1.2, hk.2⟩ | exact hk.1.1 | (simp only [hk, ne_eq, not_false_eq_true, and_self])))), (bT ae.out), (bT ai.out), (bT aj.out), fun _ => (bT av.out), fun _ => (bT aw.out), (eT HB.out), fun _ h1_ => absurd ((hon 3 (by kernel_rfl)).symm.trans h1_) (by decide), fun _ h1_ => absurd ((up_self b 10).symm.trans h1_) (by decide), fun _ => (rT bC.out), fun _ => (by (with_reducible repeat (first | apply Kd.R_alloc | apply Kd.R_drewN | apply Kd.R_drew)); exact Kd.R_mono bN.out (fun _ hk => by (with_reducible first | exact hk | exact hk.1 | exact ⟨hk.1.1.2, hk.1.2, hk.2⟩ | exact hk.1.1 | (simp only [hk, ne_eq, not_false_eq_true, and_self])))), fun _ => (by (with_reducible repeat (first | apply Kd.R_alloc | apply Kd.R_drewN | apply Kd.R_drew)); exact Kd.R_mono bV.out (fun _ hk => by (with_reducible first | exact hk | exact hk.1 | exact ⟨hk.1.1.2, hk.1.2, hk.2⟩ | exact hk.1.1 | (simp only [hk, ne_eq, not_false_eq_true, and_self])))), b9, fun h0_ _ => xo_ (hoff 14 (by kernel_rfl)) h0_, b_, ca, xo_ (hoff 21 (by kernel_rfl)), xo_ (hoff 23 (by kernel_rfl)), xo_ (hoff 25 (by kernel_rfl)), S_.out⟩
                         refine steps_cons ?_ ?_
                         ·rintro b a w' ⟨bD, bE, bJ, bH, bI, bw, bK, bG, bF, bL, ha, af, ag, ah, aq, ar, au, ay, ax, Q_HB, aV, aX, aJ, aN, aW, aQ, aY, aG, aP, a6, aM, aU, Q_S⟩ hb_ hon hoff
                          refine ⟨_, rfl, fun K hK => ?_⟩
                          replace ha := Aside0.mk ha
                          have ab := Aside0.mk af
                          have aa := Aside0.mk ag
                          have ac := Aside0.mk ah
                          have ae := Aside0.mk aq
                          have ai := Aside0.mk ar
                          have aj := Aside0.mk au
                          have av := am (ay (hoff 23 (by kernel_rfl)))
                          have aw := am (ax (hoff 25 (by kernel_rfl)))
                          have HB := Aside0.mk Q_HB
                          refine Kd.R_lit_step Kd.string _ 9 ?hg (N := 115) ?hd (xs := ([] : List ByteArray)) (inner := []) (ok := fun _ => True) (okp := fun _ => True) ?hr ?hp (fun _ hk => hk) trivial (Below.refl _ _) (Nat.le_refl _) (by simp) ?_; (case hd => rfl); (case hg => rfl); (case hr => first | (go_simp; done) | (go_simp; rfl)); (case hp => exact (Reps.none _ _))
                          intro bw w99 ho100 hb hg_ hnew_
                          have S_ := am (Sep_.sb1 Q_S hb.size (Kd.R_lt ho100) (like_new (Kd.R_base ho100)))
                          clear hg_ hnew_
                          (first | rw [← Ny274.out] at ho100 | (simp only [Int.reduceToNat] at ho100; rw [← Ny274.out] at ho100))
                          have n0_ := am (Kd.R_elder' (rT ab.out) (Kd.R_base ho100) hb)
                          have n1_ := am (Kd.R_elder' (rT aa.out) (Kd.R_base ho100) hb)
                          have n2_ := am (Kd.R_elder' (rT ac.out) (Kd.R_base ho100) hb)
                          have n3_ := am (Kd.R_lower (Kd.R_new' (Kd.R_new' (Kd.R_new' ho100 (Kd.R_lt (rT ab.out))) (Kd.R_lt (rT aa.out))) (Kd.R_lt (rT ac.out))) (below_size (eT HB.out)))
                          have n4_ := am (bB ae.out hb)
                          have n5_ := am (bB ai.out hb)
                          have n6_ := am (bB aj.out hb)
                          have n7_ := am (bB av.out hb)
                          have n8_ := am (bB aw.out hb)
                          have n9_ := am (sT HB.out hb)
                          have ct := fun (h0_ : b 0 = true) (h1_ : b 3 = false) => (show Kd.R Kd.string 9 w99 w.heap.size (fun k_ => some k_ ≠ (.slice aA ak.length az : Value).ownBlock ∧ some k_ ≠ (.slice aD ap.length aC : Value).ownBlock ∧ some k_ ≠ (.slice aD ap.length aC : Value).ownBlock) bD cW from by first | exact (Kd.R_elder' (by (with_reducible repeat (first | apply Kd.R_alloc | apply Kd.R_drewN | apply Kd.R_drew)); exact (aV h0_ h1_)) (Kd.R_base ho100) hb) | exact Kd.R_mono (Kd.R_elder' (by (with_reducible repeat (first | apply Kd.R_alloc | apply Kd.R_drewN | apply Kd.R_drew)); exact (aV h0_ h1_)) (Kd.R_base ho100) hb) (fun _ h_ => by first | trivial | exact h_ | exact h_.1))
                          have cu := fun (h0_ : b 3 = true) (h1_ : b 10 = false) => (show Kd.R Kd.string 9 w99 w.heap.size (fun k_ => some k_ ≠ (.slice aA ak.length az : Value).ownBlock ∧ some k_ ≠ (.slice aD ap.length aC : Value).ownBlock ∧ some k_ ≠ (.slice aD ap.length aC : Value).ownBlock) bE cA from by first | exact (Kd.R_elder' (by (with_reducible repeat (first | apply Kd.R_alloc | apply Kd.R_drewN | apply Kd.R_drew)); exact (aX h0_ h1_)) (Kd.R_base ho100) hb) | exact Kd.R_mono (Kd.R_elder' (by (with_reducible repeat (first | apply Kd.R_alloc | apply Kd.R_drewN | apply Kd.R_drew)); exact (aX h0_ h1_)) (Kd.R_base ho100) hb) (fun _ h_ => by first | trivial | exact h_ | exact h_.1))
                          have cq := fun (h0_ : b 7 = true) => (show Kd.R (Kd.int .u8) 5 w99 w.heap.size (fun _ => True) bJ cJ from by first | exact (Kd.R_below (by (with_reducible repeat (first | apply Kd.R_alloc | apply Kd.R_drewN | apply Kd.R_drew)); exact (aJ h0_)) hb) | exact Kd.R_mono (Kd.R_below (by (with_reducible repeat (first | apply Kd.R_alloc | apply Kd.R_drewN | apply Kd.R_drew)); exact (aJ h0_)) hb) (fun _ h_ => by first | trivial | exact h_ | exact h_.1))
                          have cr := fun (h0_ : b 9 = true) => (show Kd.R Kd.string 9 w99 w.heap.size (fun k_ => some k_ ≠ (.slice aA ak.length az : Value).ownBlock ∧ some k_ ≠ (.slice aD ap.length aC : Value).ownBlock ∧ some k_ ≠ (.slice aD ap.length aC : Value).ownBlock) bH cp from by first | exact (Kd.R_elder' (by (with_reducible repeat (first | apply Kd.R_alloc | apply Kd.R_drewN | apply Kd.R_drew)); exact (aN h0_)) (Kd.R_base ho100) hb) | exact Kd.R_mono (Kd.R_elder' (by (with_reducible repeat (first | apply Kd.R_alloc | apply Kd.R_drewN | apply Kd.R_drew)); exact (aN h0_)) (Kd.R_base ho100) hb) (fun _ h_ => by first | trivial | exact h_ | exact h_.1))
                          have cZ := fun (h0_ : b 10 = true) => (show Kd.R Kd.string 9 w99 w.heap.size (fun k_ => some k_ ≠ (.slice aA ak.length az : Value).ownBlock ∧ some k_ ≠ (.slice aD ap.length aC : Value).ownBlock ∧ some k_ ≠ (.slice aD ap.length aC : Value).ownBlock) bI cy from by first | exact (Kd.R_elder' (by (with_reducible repeat (first | apply Kd.R_alloc | apply Kd.R_drewN | apply Kd.R_drew)); exact (aW h0_)) (Kd.R_base ho100) hb) | exact Kd.R_mono (Kd.R_elder' (by (with_reducible repeat (first | apply Kd.R_alloc | apply Kd.R_drewN | apply Kd.R_drew)); exact (aW h0_)) (Kd.R_base ho100) hb) (fun _ h_ => by first | trivial | exact h_ | exact h_.1))
                          have b_ := fun (h0_ : b 18 = true) => (show Kd.R (Kd.int .u8) 5 w99 w.heap.size (fun _ => True) bG cG from by first | exact (Kd.R_below (by (with_reducible repeat (first | apply Kd.R_alloc | apply Kd.R_drewN | apply Kd.R_drew)); exact (aG h0_)) hb) | exact Kd.R_mono (Kd.R_below (by (with_reducible repeat (first | apply Kd.R_alloc | apply Kd.R_drewN | apply Kd.R_drew)); exact (aG h0_)) hb) (fun _ h_ => by first | trivial | exact h_ | exact h_.1))
                          have ca := fun (h0_ : b 20 = true) => (show Kd.R Kd.string 9 w99 w.heap.size (fun k_ => some k_ ≠ (.slice aA ak.length az : Value).ownBlock ∧ some k_ ≠ (.slice aD ap.length aC : Value).ownBlock ∧ some k_ ≠ (.slice aD ap.length aC : Value).ownBlock) bF b1 from by first | exact (Kd.R_elder' (by (with_reducible repeat (first | apply Kd.R_alloc | apply Kd.R_drewN | apply Kd.R_drew)); exact (aP h0_)) (Kd.R_base ho100) hb) | exact Kd.R_mono (Kd.R_elder' (by (with_reducible repeat (first | apply Kd.R_alloc | apply Kd.R_drewN | apply Kd.R_drew)); exact (aP h0_)) (Kd.R_base ho100) hb) (fun _ h_ => by first | trivial | exact h_ | exact h_.1))
                          clear ab aa ac ae ai aj av aw HB
                          have ab := n0_
                          have aa := n1_
                          have ac := n2_
                          have cw := n3_
                          have ae := n4_
                          have ai := n5_
                          have aj := n6_
                          have av := n7_
                          have aw := n8_
                          have HB := n9_
                          clear n0_ n1_ n2_ n3_ n4_ n5_ n6_ n7_ n8_ n9_ hb ho100
                          refine hK.out _ _ ⟨bD, bE, bJ, bH, bI, bw, bK, bG, bF, bL, (by rw [ha.out]; exact putSel_upk 9 hb_ rfl rfl rfl), (by (with_reducible repeat (first | apply Kd.R_alloc | apply Kd.R_drewN | apply Kd.R_drew)); exact Kd.R_mono ab.out (fun _ hk => by (with_reducible first | exact hk | exact hk.1 | exact ⟨hk.1.1.2, hk.1.2, hk.2⟩ | exact hk.1.1 | (simp only [hk, ne_eq, not_false_eq_true, and_self])))), (by (with_reducible repeat (first | apply Kd.R_alloc | apply Kd.R_drewN | apply Kd.R_drew)); exact Kd.R_mono aa.out (fun _ hk => by (with_reducible first | exact hk | exact hk.1 | exact ⟨hk.1.1.2, hk.1.2, hk.2⟩ | exact hk.1.1 | (simp only [hk, ne_eq, not_false_eq_true, and_self])))), (by (with_reducible repeat (first | apply Kd.R_alloc | apply Kd.R_drewN | apply Kd.R_drew)); exact Kd.R_mono ac.out (fun _ hk => by (with_reducible first | exact hk | exact hk.1 | exact ⟨hk.1.1.2, hk.1.2, hk.2⟩ | exact hk.1.1 | (simp only [hk, ne_eq, not_false_eq_true, and_self])))), (bT ae.out), (bT ai.out), (bT aj.out), fun _ => (bT av.out), fun _ => (bT aw.out), (eT HB.out), ct, cu, cq, cr, cZ, fun _ _ => (by (with_reducible repeat (first | apply Kd.R_alloc | apply Kd.R_drewN | apply Kd.R_drew)); exact Kd.R_mono cw.out (fun _ hk => by (with_reducible first | exact hk | exact hk.1 | exact ⟨hk.1.1.2, hk.1.2, hk.2⟩ | exact hk.1.1 | (simp only [hk, ne_eq, not_false_eq_true, and_self])))), fun h0_ _ => xo_ (hoff 14 (by kernel_rfl)) h0_, b_, ca, xo_ (hoff 21 (by kernel_rfl)), xo_ (hoff 23 (by kernel_rfl)), xo_ (hoff 25 (by kernel_rfl)), S_.out⟩
                         refine steps_cons ?_ ?_
                         ·rintro b a w' ⟨bD, bE, bJ, bH, bI, bw, bK, bG, bF, bL, ha, af, ag, ah, aq, ar, au, ay, ax, Q_HB, aV, aX, aJ, aN, aW, aQ, aY, aG, aP, a6, aM, aU, Q_S⟩ hb_ hon hoff
                          refine ⟨_, rfl, fun K hK => ?_⟩
                          have e116 : a.tmps[116]? = some (.pointer (some ⟨aK, 3, none⟩)) := by rw [ha]; exact (putSel_off rfl).trans rfl
                          replace ha := Aside0.mk ha
                          have ab := Aside0.mk af
                          have aa := Aside0.mk ag
                          have ac := Aside0.mk ah
                          have ae := Aside0.mk aq
                          have ai := Aside0.mk ar
                          have aj := Aside0.mk au
                          have av := am (ay (hoff 23 (by kernel_rfl)))
                          have aw := am (ax (hoff 25 (by kernel_rfl)))
                          have HB := Aside0.mk Q_HB
                          have hc0_ : w'.cell? ⟨aK, 0, none⟩ = some (.string al) := cT ae 0
                          have hc1_ : w'.cell? ⟨aK, 1, none⟩ = some (.string an) := cT ae 1
                          have hc2_ : w'.cell? ⟨aK, 2, none⟩ = some (.string ao) := cT ae 2
                          have hc3_ : w'.cell? ⟨aK, 3, none⟩ = some (.slice aA ak.length az) := cT ae 3
                          refine value_ (w1 := w') (v := .slice aA ak.length az) (by rfl) rfl ?_ ?_
                          ·go_simp
                           (try simp only [i64_w])
                           try rfl
                          refine hK.out _ _ ⟨bD, bE, bJ, bH, bI, bw, bK, bG, bF, bL, (by rw [ha.out]; exact putSel_upk 10 hb_ rfl rfl rfl), af, ag, ah, aq, ar, au, ay, ax, Q_HB, aV, aX, aJ, aN, aW, aQ, fun h0_ _ => xo_ (hoff 14 (by kernel_rfl)) h0_, aG, aP, xo_ (hoff 21 (by kernel_rfl)), xo_ (hoff 23 (by kernel_rfl)), xo_ (hoff 25 (by kernel_rfl)), Q_S⟩
                         refine steps_cons ?_ ?_
                         ·rintro b a w' ⟨bD, bE, bJ, bH, bI, bw, bK, bG, bF, bL, ha, af, ag, ah, aq, ar, au, ay, ax, Q_HB, aV, aX, aJ, aN, aW, aQ, aY, aG, aP, a6, aM, aU, Q_S⟩ hb_ hon hoff
                          refine ⟨_, rfl, fun K hK => ?_⟩
                          have e115 : a.tmps[115]? = some (bw) := by rw [ha]; exact putSel_on (e := (11, 115, bw)) 9 rfl rfl (hon 11 (by kernel_rfl)) rfl
                          have e117 : a.tmps[117]? = some (.slice aA ak.length az) := by rw [ha]; exact putSel_on (e := (13, 117, .slice aA ak.length az)) 10 rfl rfl (hon 13 (by kernel_rfl)) rfl
                          replace ha := Aside0.mk ha
                          have ab := Aside0.mk af
                          have aa := Aside0.mk ag
                          have ac := Aside0.mk ah
                          have ae := Aside0.mk aq
                          have ai := Aside0.mk ar
                          have aj := Aside0.mk au
                          have av := am (ay (hoff 23 (by kernel_rfl)))
                          have aw := am (ax (hoff 25 (by kernel_rfl)))
                          have HB := Aside0.mk Q_HB
                          have bC := am (aJ (hon 7 (by kernel_rfl)))
                          have bN := am (aN (hon 9 (by kernel_rfl)))
                          have bV := am (aW (hon 10 (by kernel_rfl)))
                          have cw := am (aQ (hon 11 (by kernel_rfl)) hb_)
                          refine Kd.R_append_rows_step Kd.string (w0 := w) w.heap.size (by rfl) (.tmp 115) (.tmp 117) 29 9 (.string ⟨#[]⟩) 16 rfl Tryd.underlying29 info9 rfl (by decide) (by omega) bw cd ak _ _ _ (fun k_ => some k_ ≠ (.slice aA ak.length az : Value).ownBlock ∧ some k_ ≠ (.slice aD ap.length aC : Value).ownBlock ∧ some k_ ≠ (.slice aD ap.length aC : Value).ownBlock) (fun _ => False) (evq_ e115) (evq_ e117) ?aO ?aR (fun _ _ h => h) (fun _ h => h.elim) ?aF ?aB ?aS ?aL ?_
                          (case aR => repeat (first | exact (Kd.R_reads' ab.out).2.2 | (with_reducible refine Kd.C_alloc ?_ _) | (with_reducible refine Kd.C_drewN ?_ _) | (with_reducible refine Kd.C_drew ?_)))
                          (case aB => exact (eT HB.out))
                          (case aF => exact (fun k_ hk => ⟨Kd.fresh' (Kd.R_lt (rT ab.out)) k_ hk, Kd.fresh' (Kd.R_lt (rT aa.out)) k_ hk, Kd.fresh' (Kd.R_lt (rT ac.out)) k_ hk⟩))
                          (case aO => exact (rT cw.out))
                          (case aS => exact (below_size (eT HB.out)))
                          (case aL => have := LMc71.out; omega)
                          intro bK gy ho hb hg hat
                          have S_ := am (Sep_.sb2 Q_S hg.size (Kd.R_lt ho) (like_at hat))
                          rw [← Ny277.out] at ho
                          have n0_ := am (Kd.R_after (by (with_reducible repeat (first | apply Kd.R_alloc | apply Kd.R_drewN | apply Kd.R_drew)); exact R_sepO ab.out (fun k hk => ((cw.out.1 k hk).1))) hg hat)
                          have n1_ := am (Kd.R_after (by (with_reducible repeat (first | apply Kd.R_alloc | apply Kd.R_drewN | apply Kd.R_drew)); exact R_sepO aa.out (fun k hk => ((cw.out.1 k hk).2.1))) hg hat)
                          have n2_ := am (Kd.R_after (by (with_reducible repeat (first | apply Kd.R_alloc | apply Kd.R_drewN | apply Kd.R_drew)); exact R_sepO ac.out (fun k hk => ((cw.out.1 k hk).2.2))) hg hat)
                          have n3_ := am (blk_grown (g := aK) (o := .cells #[.string al, .string an, .string ao, .slice aA ak.length az] 36 (0, 0)) (bT ae.out) hg (Kd.R_ne cw.out ae.out (by decide)))
                          have n4_ := am (blk_grown (g := aZ) (o := .cells #[.string al, .string an, .string ao, .slice aD ap.length aC] 36 (0, 0)) (bT ai.out) hg (Kd.R_ne cw.out ai.out (by decide)))
                          have n5_ := am (blk_grown (g := aE) (o := .cells #[.string al, .string an, .string b4, .slice aD ap.length aC] 36 (0, 0)) (bT aj.out) hg (Kd.R_ne cw.out aj.out (by decide)))
                          have n6_ := am (blk_grown (g := aH) (o := .cells #[.string al, .string an, .string ao, .slice aA ak.length az] 36 (0, 0)) (bT av.out) hg (Kd.R_ne cw.out av.out (by decide)))
                          have n7_ := am (blk_grown (g := aI) (o := .cells #[.string al, .string an, .string ao, .slice aA ak.length az] 36 (0, 0)) (bT aw.out) hg (Kd.R_ne cw.out aw.out (by decide)))
                          have n8_ := am (Kd.R_over' (rT bC.out) (Kd.R_typed (rT cw.out)) (by decide) hg)
                          have n9_ := am (Kd.R_after (by (with_reducible repeat (first | apply Kd.R_alloc | apply Kd.R_drewN | apply Kd.R_drew)); exact R_sepO bN.out (Q_S.bd _ (by simp) _ (by simp))) hg hat)
                          have n10_ := am (Kd.R_after (by (with_reducible repeat (first | apply Kd.R_alloc | apply Kd.R_drewN | apply Kd.R_drew)); exact R_sepO bV.out ((Q_S.ad _ (by simp) _ (by simp)).symm)) hg hat)
                          have n11_ := am (hb)
                          have n12_ := am (ho)
                          have b_ := fun (h0_ : b 18 = true) => (show Kd.R (Kd.int .u8) 5 gy w.heap.size (fun _ => True) bG cG from by first | exact (Kd.R_over' (by (with_reducible repeat (first | apply Kd.R_alloc | apply Kd.R_drewN | apply Kd.R_drew)); exact (aG h0_)) (Kd.R_typed (rT cw.out)) (by decide) hg) | exact Kd.R_mono (Kd.R_over' (by (with_reducible repeat (first | apply Kd.R_alloc | apply Kd.R_drewN | apply Kd.R_drew)); exact (aG h0_)) (Kd.R_typed (rT cw.out)) (by decide) hg) (fun _ h_ => by first | trivial | exact h_ | exact h_.1))
                          have ca := fun (h0_ : b 20 = true) => (show Kd.R Kd.string 9 gy w.heap.size (fun k_ => some k_ ≠ (.slice aA ak.length az : Value).ownBlock ∧ some k_ ≠ (.slice aD ap.length aC : Value).ownBlock ∧ some k_ ≠ (.slice aD ap.length aC : Value).ownBlock) bF b1 from Kd.R_mono (Kd.R_after (by (with_reducible repeat (first | apply Kd.R_alloc | apply Kd.R_drewN | apply Kd.R_drew)); exact R_sepO (aP h0_) (Q_S.bd _ (by simp) _ (by simp))) hg hat) (fun _ h_ => h_.1))
                          clear ab aa ac ae ai aj av aw bC bN bV HB cw
                          have ab := n0_
                          have aa := n1_
                          have ac := n2_
                          have ae := n3_
                          have ai := n4_
                          have aj := n5_
                          have av := n6_
                          have aw := n7_
                          have bC := n8_
                          have bN := n9_
                          have bV := n10_
                          have HB := n11_
                          have cz := n12_
                          clear n0_ n1_ n2_ n3_ n4_ n5_ n6_ n7_ n8_ n9_ n10_ n11_ n12_ ho hb hg hat
                          refine hK.out _ _ ⟨bD, bE, bJ, bH, bI, bw, bK, bG, bF, bL, (by rw [ha.out]; exact putSel_upk 11 hb_ rfl rfl rfl), (by (with_reducible repeat (first | apply Kd.R_alloc | apply Kd.R_drewN | apply Kd.R_drew)); exact Kd.R_mono ab.out (fun _ hk => by (with_reducible first | exact hk | exact hk.1 | exact ⟨hk.1.1.2, hk.1.2, hk.2⟩ | exact hk.1.1 | (simp only [hk, ne_eq, not_false_eq_true, and_self])))), (by (with_reducible repeat (first | apply Kd.R_alloc | apply Kd.R_drewN | apply Kd.R_drew)); exact Kd.R_mono aa.out (fun _ hk => by (with_reducible first | exact hk | exact hk.1 | exact ⟨hk.1.1.2, hk.1.2, hk.2⟩ | exact hk.1.1 | (simp only [hk, ne_eq, not_false_eq_true, and_self])))), (by (with_reducible repeat (first | apply Kd.R_alloc | apply Kd.R_drewN | apply Kd.R_drew)); exact Kd.R_mono ac.out (fun _ hk => by (with_reducible first | exact hk | exact hk.1 | exact ⟨hk.1.1.2, hk.1.2, hk.2⟩ | exact hk.1.1 | (simp only [hk, ne_eq, not_false_eq_true, and_self])))), (bT ae.out), (bT ai.out), (bT aj.out), fun _ => (bT av.out), fun _ => (bT aw.out), (eT HB.out), fun _ h1_ => absurd ((hon 3 (by kernel_rfl)).symm.trans h1_) (by decide), fun _ h1_ => absurd ((hon 10 (by kernel_rfl)).symm.trans h1_) (by decide), fun _ => (rT bC.out), fun _ => (by (with_reducible repeat (first | apply Kd.R_alloc | apply Kd.R_drewN | apply Kd.R_drew)); exact Kd.R_mono bN.out (fun _ hk => by (with_reducible first | exact hk | exact hk.1 | exact ⟨hk.1.1.2, hk.1.2, hk.2⟩ | exact hk.1.1 | (simp only [hk, ne_eq, not_false_eq_true, and_self])))), fun _ => (by (with_reducible repeat (first | apply Kd.R_alloc | apply Kd.R_drewN | apply Kd.R_drew)); exact Kd.R_mono bV.out (fun _ hk => by (with_reducible first | exact hk | exact hk.1 | exact ⟨hk.1.1.2, hk.1.2, hk.2⟩ | exact hk.1.1 | (simp only [hk, ne_eq, not_false_eq_true, and_self])))), fun _ h1_ => absurd ((up_self b 14).symm.trans h1_) (by decide), fun _ _ => (by (with_reducible repeat (first | apply Kd.R_alloc | apply Kd.R_drewN | apply Kd.R_drew)); exact Kd.R_mono cz.out (fun _ hk => by (with_reducible first | exact hk | exact hk.1 | exact ⟨hk.1.1.2, hk.1.2, hk.2⟩ | exact hk.1.1 | (simp only [hk, ne_eq, not_false_eq_true, and_self])))), b_, ca, xo_ (hoff 21 (by kernel_rfl)), xo_ (hoff 23 (by kernel_rfl)), xo_ (hoff 25 (by kernel_rfl)), S_.out⟩
                         refine steps_cons ?_ ?_
                         ·rintro b a w' ⟨bD, bE, bJ, bH, bI, bw, bK, bG, bF, bL, ha, af, ag, ah, aq, ar, au, ay, ax, Q_HB, aV, aX, aJ, aN, aW, aQ, aY, aG, aP, a6, aM, aU, Q_S⟩ hb_ hon hoff
                          refine ⟨_, rfl, fun K hK => ?_⟩
                          have e119 : a.tmps[119]? = some (.int .u8 a2) := by rw [ha]; exact (putSel_off rfl).trans rfl
                          replace ha := Aside0.mk ha
                          have ab := Aside0.mk af
                          have aa := Aside0.mk ag
                          have ac := Aside0.mk ah
                          have ae := Aside0.mk aq
                          have ai := Aside0.mk ar
                          have aj := Aside0.mk au
                          have av := am (ay (hoff 23 (by kernel_rfl)))
                          have aw := am (ax (hoff 25 (by kernel_rfl)))
                          have HB := Aside0.mk Q_HB
                          refine value_ (w1 := w') (v := .int .u8 (Int.tmod a2 26)) (by rfl) rfl ?_ ?_
                          ·go_simp
                           (try simp only [i64_w])
                           try rfl
                          refine hK.out _ _ ⟨bD, bE, bJ, bH, bI, bw, bK, bG, bF, bL, (by rw [ha.out]; exact putSel_upk 12 hb_ rfl rfl rfl), af, ag, ah, aq, ar, au, ay, ax, Q_HB, aV, aX, aJ, aN, aW, aQ, aY, xo_ (hoff 18 (by kernel_rfl)), xo_ (hoff 20 (by kernel_rfl)), xo_ (hoff 21 (by kernel_rfl)), xo_ (hoff 23 (by kernel_rfl)), xo_ (hoff 25 (by kernel_rfl)), Q_S⟩
                         refine steps_cons ?_ ?_
                         ·rintro b a w' ⟨bD, bE, bJ, bH, bI, bw, bK, bG, bF, bL, ha, af, ag, ah, aq, ar, au, ay, ax, Q_HB, aV, aX, aJ, aN, aW, aQ, aY, aG, aP, a6, aM, aU, Q_S⟩ hb_ hon hoff
                          refine ⟨_, rfl, fun K hK => ?_⟩
                          have e120 : a.tmps[120]? = some (.int .u8 (Int.tmod a2 26)) := by rw [ha]; exact putSel_on (e := (16, 120, .int .u8 (Int.tmod a2 26))) 12 rfl rfl (hon 16 (by kernel_rfl)) rfl
                          replace ha := Aside0.mk ha
                          have ab := Aside0.mk af
                          have aa := Aside0.mk ag
                          have ac := Aside0.mk ah
                          have ae := Aside0.mk aq
                          have ai := Aside0.mk ar
                          have aj := Aside0.mk au
                          have av := am (ay (hoff 23 (by kernel_rfl)))
                          have aw := am (ax (hoff 25 (by kernel_rfl)))
                          have HB := Aside0.mk Q_HB
                          refine value_ (w1 := w') (v := .int .u8 ((97 + (Int.tmod a2 26)) % 256)) (by rfl) rfl ?_ ?_
                          ·go_simp
                           (try simp only [i64_w])
                           try rfl
                          refine hK.out _ _ ⟨bD, bE, bJ, bH, bI, bw, bK, bG, bF, bL, (by rw [ha.out]; exact putSel_upk 13 hb_ rfl rfl rfl), af, ag, ah, aq, ar, au, ay, ax, Q_HB, aV, aX, aJ, aN, aW, aQ, aY, xo_ (hoff 18 (by kernel_rfl)), xo_ (hoff 20 (by kernel_rfl)), xo_ (hoff 21 (by kernel_rfl)), xo_ (hoff 23 (by kernel_rfl)), xo_ (hoff 25 (by kernel_rfl)), Q_S⟩
                         refine steps_cons ?_ ?_
                         ·rintro b a w' ⟨bD, bE, bJ, bH, bI, bw, bK, bG, bF, bL, ha, af, ag, ah, aq, ar, au, ay, ax, Q_HB, aV, aX, aJ, aN, aW, aQ, aY, aG, aP, a6, aM, aU, Q_S⟩ hb_ hon hoff
                          refine ⟨_, rfl, fun K hK => ?_⟩
                          have e121 : a.tmps[121]? = some (.int .u8 ((97 + (Int.tmod a2 26)) % 256)) := by rw [ha]; exact putSel_on (e := (17, 121, .int .u8 ((97 + (Int.tmod a2 26)) % 256))) 13 rfl rfl (hon 17 (by kernel_rfl)) rfl
                          replace ha := Aside0.mk ha
                          have ab := Aside0.mk af
                          have aa := Aside0.mk ag
                          have ac := Aside0.mk ah
                          have ae := Aside0.mk aq
                          have ai := Aside0.mk ar
                          have aj := Aside0.mk au
                          have av := am (ay (hoff 23 (by kernel_rfl)))
                          have aw := am (ax (hoff 25 (by kernel_rfl)))
                          have HB := Aside0.mk Q_HB
                          refine Kd.R_lit_step (Kd.int .u8) _ 5 ?hg (N := 122) ?hd (xs := ([(97 + (Int.tmod a2 26)) % 256] : List Int)) (inner := [.int .u8 ((97 + (Int.tmod a2 26)) % 256)]) (ok := fun _ => True) (okp := fun _ => True) ?hr ?hp (fun _ hk => hk) trivial (Below.refl _ _) (Nat.le_refl _) (by simp) ?_; (case hd => rfl); (case hg => rfl); (case hr => first | (go_simp; done) | (go_simp; rfl)); (case hp => exact (Reps.one (show Kd.M (Kd.int .u8) _ _ _ ((97 + (Int.tmod a2 26)) % 256) [.int .u8 ((97 + (Int.tmod a2 26)) % 256)] from rfl) (Reps.none _ _)))
                          intro bG w99 ho100 hb hg_ hnew_
                          have S_ := am (Q_S.mono hb.size)
                          clear hg_ hnew_
                          (first | rw [← Ny280.out] at ho100 | (simp only [Int.reduceToNat] at ho100; rw [← Ny280.out] at ho100))
                          have n0_ := am (rB ab.out hb)
                          have n1_ := am (rB aa.out hb)
                          have n2_ := am (rB ac.out hb)
                          have n3_ := am (Kd.R_lower ho100 (below_size (eT HB.out)))
                          have n4_ := am (bB ae.out hb)
                          have n5_ := am (bB ai.out hb)
                          have n6_ := am (bB aj.out hb)
                          have n7_ := am (bB av.out hb)
                          have n8_ := am (bB aw.out hb)
                          have n9_ := am (sT HB.out hb)
                          have ct := fun (h0_ : b 0 = true) (h1_ : b 3 = false) => (show Kd.R Kd.string 9 w99 w.heap.size (fun k_ => some k_ ≠ (.slice aA ak.length az : Value).ownBlock ∧ some k_ ≠ (.slice aD ap.length aC : Value).ownBlock ∧ some k_ ≠ (.slice aD ap.length aC : Value).ownBlock) bD cW from by first | exact (Kd.R_below (by (with_reducible repeat (first | apply Kd.R_alloc | apply Kd.R_drewN | apply Kd.R_drew)); exact (aV h0_ h1_)) hb) | exact Kd.R_mono (Kd.R_below (by (with_reducible repeat (first | apply Kd.R_alloc | apply Kd.R_drewN | apply Kd.R_drew)); exact (aV h0_ h1_)) hb) (fun _ h_ => by first | trivial | exact h_ | exact h_.1))
                          have cu := fun (h0_ : b 3 = true) (h1_ : b 10 = false) => (show Kd.R Kd.string 9 w99 w.heap.size (fun k_ => some k_ ≠ (.slice aA ak.length az : Value).ownBlock ∧ some k_ ≠ (.slice aD ap.length aC : Value).ownBlock ∧ some k_ ≠ (.slice aD ap.length aC : Value).ownBlock) bE cA from by first | exact (Kd.R_below (by (with_reducible repeat (first | apply Kd.R_alloc | apply Kd.R_drewN | apply Kd.R_drew)); exact (aX h0_ h1_)) hb) | exact Kd.R_mono (Kd.R_below (by (with_reducible repeat (first | apply Kd.R_alloc | apply Kd.R_drewN | apply Kd.R_drew)); exact (aX h0_ h1_)) hb) (fun _ h_ => by first | trivial | exact h_ | exact h_.1))
                          have cq := fun (h0_ : b 7 = true) => (show Kd.R (Kd.int .u8) 5 w99 w.heap.size (fun _ => True) bJ cJ from by first | exact (Kd.R_elder' (by (with_reducible repeat (first | apply Kd.R_alloc | apply Kd.R_drewN | apply Kd.R_drew)); exact (aJ h0_)) (Kd.R_base ho100) hb) | exact Kd.R_mono (Kd.R_elder' (by (with_reducible repeat (first | apply Kd.R_alloc | apply Kd.R_drewN | apply Kd.R_drew)); exact (aJ h0_)) (Kd.R_base ho100) hb) (fun _ h_ => by first | trivial | exact h_ | exact h_.1))
                          have cr := fun (h0_ : b 9 = true) => (show Kd.R Kd.string 9 w99 w.heap.size (fun k_ => some k_ ≠ (.slice aA ak.length az : Value).ownBlock ∧ some k_ ≠ (.slice aD ap.length aC : Value).ownBlock ∧ some k_ ≠ (.slice aD ap.length aC : Value).ownBlock) bH cp from by first | exact (Kd.R_below (by (with_reducible repeat (first | apply Kd.R_alloc | apply Kd.R_drewN | apply Kd.R_drew)); exact (aN h0_)) hb) | exact Kd.R_mono (Kd.R_below (by (with_reducible repeat (first | apply Kd.R_alloc | apply Kd.R_drewN | apply Kd.R_drew)); exact (aN h0_)) hb) (fun _ h_ => by first | trivial | exact h_ | exact h_.1))
                          have cZ := fun (h0_ : b 10 = true) => (show Kd.R Kd.string 9 w99 w.heap.size (fun k_ => some k_ ≠ (.slice aA ak.length az : Value).ownBlock ∧ some k_ ≠ (.slice aD ap.length aC : Value).ownBlock ∧ some k_ ≠ (.slice aD ap.length aC : Value).ownBlock) bI cy from by first | exact (Kd.R_below (by (with_reducible repeat (first | apply Kd.R_alloc | apply Kd.R_drewN | apply Kd.R_drew)); exact (aW h0_)) hb) | exact Kd.R_mono (Kd.R_below (by (with_reducible repeat (first | apply Kd.R_alloc | apply Kd.R_drewN | apply Kd.R_drew)); exact (aW h0_)) hb) (fun _ h_ => by first | trivial | exact h_ | exact h_.1))
                          have b9 := fun (h0_ : b 11 = true) (h1_ : b 14 = false) => (show Kd.R Kd.string 9 w99 w.heap.size (fun k_ => some k_ ≠ (.slice aA ak.length az : Value).ownBlock ∧ some k_ ≠ (.slice aD ap.length aC : Value).ownBlock ∧ some k_ ≠ (.slice aD ap.length aC : Value).ownBlock) bw cd from by first | exact (Kd.R_below (by (with_reducible repeat (first | apply Kd.R_alloc | apply Kd.R_drewN | apply Kd.R_drew)); exact (aQ h0_ h1_)) hb) | exact Kd.R_mono (Kd.R_below (by (with_reducible repeat (first | apply Kd.R_alloc | apply Kd.R_drewN | apply Kd.R_drew)); exact (aQ h0_ h1_)) hb) (fun _ h_ => by first | trivial | exact h_ | exact h_.1))
                          have eh := fun (h0_ : b 14 = true) (h1_ : b 21 = false) => (show Kd.R Kd.string 9 w99 w.heap.size (fun k_ => some k_ ≠ (.slice aA ak.length az : Value).ownBlock ∧ some k_ ≠ (.slice aD ap.length aC : Value).ownBlock ∧ some k_ ≠ (.slice aD ap.length aC : Value).ownBlock) bK cb from by first | exact (Kd.R_below (by (with_reducible repeat (first | apply Kd.R_alloc | apply Kd.R_drewN | apply Kd.R_drew)); exact (aY h0_ h1_)) hb) | exact Kd.R_mono (Kd.R_below (by (with_reducible repeat (first | apply Kd.R_alloc | apply Kd.R_drewN | apply Kd.R_drew)); exact (aY h0_ h1_)) hb) (fun _ h_ => by first | trivial | exact h_ | exact h_.1))
                          clear ab aa ac ae ai aj av aw HB
                          have ab := n0_
                          have aa := n1_
                          have ac := n2_
                          have b3 := n3_
                          have ae := n4_
                          have ai := n5_
                          have aj := n6_
                          have av := n7_
                          have aw := n8_
                          have HB := n9_
                          clear n0_ n1_ n2_ n3_ n4_ n5_ n6_ n7_ n8_ n9_ hb ho100
                          refine hK.out _ _ ⟨bD, bE, bJ, bH, bI, bw, bK, bG, bF, bL, (by rw [ha.out]; exact putSel_upk 14 hb_ rfl rfl rfl), (rT ab.out), (rT aa.out), (rT ac.out), (bT ae.out), (bT ai.out), (bT aj.out), fun _ => (bT av.out), fun _ => (bT aw.out), (eT HB.out), ct, cu, cq, cr, cZ, b9, eh, fun _ => (rT b3.out), xo_ (hoff 20 (by kernel_rfl)), xo_ (hoff 21 (by kernel_rfl)), xo_ (hoff 23 (by kernel_rfl)), xo_ (hoff 25 (by kernel_rfl)), S_.out⟩
                         refine steps_cons ?_ ?_
                         ·rintro b a w' ⟨bD, bE, bJ, bH, bI, bw, bK, bG, bF, bL, ha, af, ag, ah, aq, ar, au, ay, ax, Q_HB, aV, aX, aJ, aN, aW, aQ, aY, aG, aP, a6, aM, aU, Q_S⟩ hb_ hon hoff
                          refine ⟨_, rfl, fun K hK => ?_⟩
                          have e122 : a.tmps[122]? = some (bG) := by rw [ha]; exact putSel_on (e := (18, 122, bG)) 14 rfl rfl (hon 18 (by kernel_rfl)) rfl
                          replace ha := Aside0.mk ha
                          have ab := Aside0.mk af
                          have aa := Aside0.mk ag
                          have ac := Aside0.mk ah
                          have ae := Aside0.mk aq
                          have ai := Aside0.mk ar
                          have aj := Aside0.mk au
                          have av := am (ay (hoff 23 (by kernel_rfl)))
                          have aw := am (ax (hoff 25 (by kernel_rfl)))
                          have HB := Aside0.mk Q_HB
                          have b3 := am (aG (hon 18 (by kernel_rfl)))
                          obtain ⟨fU, fV, eo_⟩ := Kd.R_slice b3.out
                          subst eo_
                          have hcv_ := own_string (P := Tryd.prog) Tryd.underlying47 Tryd.underlying5 Tryd.underlying9 (Kd.own_of_R b3.out)
                          refine value_ (w1 := w') (v := .string (strOfNums cG)) (by rfl) rfl ?_ ?_
                          ·go_simp
                           (try simp only [i64_w])
                           try rfl
                          refine hK.out _ _ ⟨bD, bE, bJ, bH, bI, bw, bK, .slice fU cG.length fV, bF, bL, (by rw [ha.out]; exact putSel_upk 15 hb_ rfl rfl rfl), af, ag, ah, aq, ar, au, ay, ax, Q_HB, aV, aX, aJ, aN, aW, aQ, aY, aG, xo_ (hoff 20 (by kernel_rfl)), xo_ (hoff 21 (by kernel_rfl)), xo_ (hoff 23 (by kernel_rfl)), xo_ (hoff 25 (by kernel_rfl)), Q_S⟩
                         refine steps_cons ?_ ?_
                         ·rintro b a w' ⟨bD, bE, bJ, bH, bI, bw, bK, bG, bF, bL, ha, af, ag, ah, aq, ar, au, ay, ax, Q_HB, aV, aX, aJ, aN, aW, aQ, aY, aG, aP, a6, aM, aU, Q_S⟩ hb_ hon hoff
                          refine ⟨_, rfl, fun K hK => ?_⟩
                          have e123 : a.tmps[123]? = some (.string (strOfNums cG)) := by rw [ha]; exact putSel_on (e := (19, 123, .string (strOfNums cG))) 15 rfl rfl (hon 19 (by kernel_rfl)) rfl
                          replace ha := Aside0.mk ha
                          have ab := Aside0.mk af
                          have aa := Aside0.mk ag
                          have ac := Aside0.mk ah
                          have ae := Aside0.mk aq
                          have ai := Aside0.mk ar
                          have aj := Aside0.mk au
                          have av := am (ay (hoff 23 (by kernel_rfl)))
                          have aw := am (ax (hoff 25 (by kernel_rfl)))
                          have HB := Aside0.mk Q_HB
                          have b3 := am (aG (hon 18 (by kernel_rfl)))
                          refine Kd.R_lit_step Kd.string _ 9 ?hg (N := 124) ?hd (xs := ([strOfNums cG] : List ByteArray)) (inner := [.string (strOfNums cG)]) (ok := fun _ => True) (okp := fun _ => True) ?hr ?hp (fun _ hk => hk) trivial (Below.refl _ _) (Nat.le_refl _) (by simp) ?_; (case hd => rfl); (case hg => rfl); (case hr => first | (go_simp; done) | (go_simp; rfl)); (case hp => exact (Reps.one (show Kd.M Kd.string _ _ _ (strOfNums cG) [.string (strOfNums cG)] from rfl) (Reps.none _ _)))
                          intro bF cH ho103 hb hg_ hnew_
                          have S_ := am (Sep_.se Q_S hb.size (Kd.R_lt ho103) (Kd.R_base ho103))
                          clear hg_ hnew_
                          (first | rw [← Ny283.out] at ho103 | (simp only [Int.reduceToNat] at ho103; rw [← Ny283.out] at ho103))
                          have n0_ := am (Kd.R_elder' (rT ab.out) (Kd.R_base ho103) hb)
                          have n1_ := am (Kd.R_elder' (rT aa.out) (Kd.R_base ho103) hb)
                          have n2_ := am (Kd.R_elder' (rT ac.out) (Kd.R_base ho103) hb)
                          have n3_ := am (rB b3.out hb)
                          have n4_ := am (Kd.R_lower (Kd.R_new' (Kd.R_new' (Kd.R_new' ho103 (Kd.R_lt (rT ab.out))) (Kd.R_lt (rT aa.out))) (Kd.R_lt (rT ac.out))) (below_size (eT HB.out)))
                          have n5_ := am (bB ae.out hb)
                          have n6_ := am (bB ai.out hb)
                          have n7_ := am (bB aj.out hb)
                          have n8_ := am (bB av.out hb)
                          have n9_ := am (bB aw.out hb)
                          have n10_ := am (sT HB.out hb)
                          have ct := fun (h0_ : b 0 = true) (h1_ : b 3 = false) => (show Kd.R Kd.string 9 cH w.heap.size (fun k_ => some k_ ≠ (.slice aA ak.length az : Value).ownBlock ∧ some k_ ≠ (.slice aD ap.length aC : Value).ownBlock ∧ some k_ ≠ (.slice aD ap.length aC : Value).ownBlock) bD cW from by first | exact (Kd.R_elder' (by (with_reducible repeat (first | apply Kd.R_alloc | apply Kd.R_drewN | apply Kd.R_drew)); exact (aV h0_ h1_)) (Kd.R_base ho103) hb) | exact Kd.R_mono (Kd.R_elder' (by (with_reducible repeat (first | apply Kd.R_alloc | apply Kd.R_drewN | apply Kd.R_drew)); exact (aV h0_ h1_)) (Kd.R_base ho103) hb) (fun _ h_ => by first | trivial | exact h_ | exact h_.1))
                          have cu := fun (h0_ : b 3 = true) (h1_ : b 10 = false) => (show Kd.R Kd.string 9 cH w.heap.size (fun k_ => some k_ ≠ (.slice aA ak.length az : Value).ownBlock ∧ some k_ ≠ (.slice aD ap.length aC : Value).ownBlock ∧ some k_ ≠ (.slice aD ap.length aC : Value).ownBlock) bE cA from by first | exact (Kd.R_elder' (by (with_reducible repeat (first | apply Kd.R_alloc | apply Kd.R_drewN | apply Kd.R_drew)); exact (aX h0_ h1_)) (Kd.R_base ho103) hb) | exact Kd.R_mono (Kd.R_elder' (by (with_reducible repeat (first | apply Kd.R_alloc | apply Kd.R_drewN | apply Kd.R_drew)); exact (aX h0_ h1_)) (Kd.R_base ho103) hb) (fun _ h_ => by first | trivial | exact h_ | exact h_.1))
                          have cq := fun (h0_ : b 7 = true) => (show Kd.R (Kd.int .u8) 5 cH w.heap.size (fun _ => True) bJ cJ from by first | exact (Kd.R_below (by (with_reducible repeat (first | apply Kd.R_alloc | apply Kd.R_drewN | apply Kd.R_drew)); exact (aJ h0_)) hb) | exact Kd.R_mono (Kd.R_below (by (with_reducible repeat (first | apply Kd.R_alloc | apply Kd.R_drewN | apply Kd.R_drew)); exact (aJ h0_)) hb) (fun _ h_ => by first | trivial | exact h_ | exact h_.1))
                          have cr := fun (h0_ : b 9 = true) => (show Kd.R Kd.string 9 cH w.heap.size (fun k_ => some k_ ≠ (.slice aA ak.length az : Value).ownBlock ∧ some k_ ≠ (.slice aD ap.length aC : Value).ownBlock ∧ some k_ ≠ (.slice aD ap.length aC : Value).ownBlock) bH cp from by first | exact (Kd.R_elder' (by (with_reducible repeat (first | apply Kd.R_alloc | apply Kd.R_drewN | apply Kd.R_drew)); exact (aN h0_)) (Kd.R_base ho103) hb) | exact Kd.R_mono (Kd.R_elder' (by (with_reducible repeat (first | apply Kd.R_alloc | apply Kd.R_drewN | apply Kd.R_drew)); exact (aN h0_)) (Kd.R_base ho103) hb) (fun _ h_ => by first | trivial | exact h_ | exact h_.1))
                          have cZ := fun (h0_ : b 10 = true) => (show Kd.R Kd.string 9 cH w.heap.size (fun k_ => some k_ ≠ (.slice aA ak.length az : Value).ownBlock ∧ some k_ ≠ (.slice aD ap.length aC : Value).ownBlock ∧ some k_ ≠ (.slice aD ap.length aC : Value).ownBlock) bI cy from by first | exact (Kd.R_elder' (by (with_reducible repeat (first | apply Kd.R_alloc | apply Kd.R_drewN | apply Kd.R_drew)); exact (aW h0_)) (Kd.R_base ho103) hb) | exact Kd.R_mono (Kd.R_elder' (by (with_reducible repeat (first | apply Kd.R_alloc | apply Kd.R_drewN | apply Kd.R_drew)); exact (aW h0_)) (Kd.R_base ho103) hb) (fun _ h_ => by first | trivial | exact h_ | exact h_.1))
                          have b9 := fun (h0_ : b 11 = true) (h1_ : b 14 = false) => (show Kd.R Kd.string 9 cH w.heap.size (fun k_ => some k_ ≠ (.slice aA ak.length az : Value).ownBlock ∧ some k_ ≠ (.slice aD ap.length aC : Value).ownBlock ∧ some k_ ≠ (.slice aD ap.length aC : Value).ownBlock) bw cd from by first | exact (Kd.R_elder' (by (with_reducible repeat (first | apply Kd.R_alloc | apply Kd.R_drewN | apply Kd.R_drew)); exact (aQ h0_ h1_)) (Kd.R_base ho103) hb) | exact Kd.R_mono (Kd.R_elder' (by (with_reducible repeat (first | apply Kd.R_alloc | apply Kd.R_drewN | apply Kd.R_drew)); exact (aQ h0_ h1_)) (Kd.R_base ho103) hb) (fun _ h_ => by first | trivial | exact h_ | exact h_.1))
                          have eh := fun (h0_ : b 14 = true) (h1_ : b 21 = false) => (show Kd.R Kd.string 9 cH w.heap.size (fun k_ => some k_ ≠ (.slice aA ak.length az : Value).ownBlock ∧ some k_ ≠ (.slice aD ap.length aC : Value).ownBlock ∧ some k_ ≠ (.slice aD ap.length aC : Value).ownBlock) bK cb from by first | exact (Kd.R_elder' (by (with_reducible repeat (first | apply Kd.R_alloc | apply Kd.R_drewN | apply Kd.R_drew)); exact (aY h0_ h1_)) (Kd.R_base ho103) hb) | exact Kd.R_mono (Kd.R_elder' (by (with_reducible repeat (first | apply Kd.R_alloc | apply Kd.R_drewN | apply Kd.R_drew)); exact (aY h0_ h1_)) (Kd.R_base ho103) hb) (fun _ h_ => by first | trivial | exact h_ | exact h_.1))
                          clear ab aa ac b3 ae ai aj av aw HB
                          have ab := n0_
                          have aa := n1_
                          have ac := n2_
                          have b3 := n3_
                          have cc := n4_
                          have ae := n5_
                          have ai := n6_
                          have aj := n7_
                          have av := n8_
                          have aw := n9_
                          have HB := n10_
                          clear n0_ n1_ n2_ n3_ n4_ n5_ n6_ n7_ n8_ n9_ n10_ hb ho103
                          refine hK.out _ _ ⟨bD, bE, bJ, bH, bI, bw, bK, bG, bF, bL, (by rw [ha.out]; exact putSel_upk 16 hb_ rfl rfl rfl), (by (with_reducible repeat (first | apply Kd.R_alloc | apply Kd.R_drewN | apply Kd.R_drew)); exact Kd.R_mono ab.out (fun _ hk => by (with_reducible first | exact hk | exact hk.1 | exact ⟨hk.1.1.2, hk.1.2, hk.2⟩ | exact hk.1.1 | (simp only [hk, ne_eq, not_false_eq_true, and_self])))), (by (with_reducible repeat (first | apply Kd.R_alloc | apply Kd.R_drewN | apply Kd.R_drew)); exact Kd.R_mono aa.out (fun _ hk => by (with_reducible first | exact hk | exact hk.1 | exact ⟨hk.1.1.2, hk.1.2, hk.2⟩ | exact hk.1.1 | (simp only [hk, ne_eq, not_false_eq_true, and_self])))), (by (with_reducible repeat (first | apply Kd.R_alloc | apply Kd.R_drewN | apply Kd.R_drew)); exact Kd.R_mono ac.out (fun _ hk => by (with_reducible first | exact hk | exact hk.1 | exact ⟨hk.1.1.2, hk.1.2, hk.2⟩ | exact hk.1.1 | (simp only [hk, ne_eq, not_false_eq_true, and_self])))), (bT ae.out), (bT ai.out), (bT aj.out), fun _ => (bT av.out), fun _ => (bT aw.out), (eT HB.out), ct, cu, cq, cr, cZ, b9, eh, fun _ => (rT b3.out), fun _ => (by (with_reducible repeat (first | apply Kd.R_alloc | apply Kd.R_drewN | apply Kd.R_drew)); exact Kd.R_mono cc.out (fun _ hk => by (with_reducible first | exact hk | exact hk.1 | exact ⟨hk.1.1.2, hk.1.2, hk.2⟩ | exact hk.1.1 | (simp only [hk, ne_eq, not_false_eq_true, and_self])))), xo_ (hoff 21 (by kernel_rfl)), xo_ (hoff 23 (by kernel_rfl)), xo_ (hoff 25 (by kernel_rfl)), S_.out⟩
                         refine steps_cons ?_ ?_
                         ·rintro b a w' ⟨bD, bE, bJ, bH, bI, bw, bK, bG, bF, bL, ha, af, ag, ah, aq, ar, au, ay, ax, Q_HB, aV, aX, aJ, aN, aW, aQ, aY, aG, aP, a6, aM, aU, Q_S⟩ hb_ hon hoff
                          refine ⟨_, rfl, fun K hK => ?_⟩
                          have e118 : a.tmps[118]? = some (bK) := by rw [ha]; exact putSel_on (e := (14, 118, bK)) 11 rfl rfl (hon 14 (by kernel_rfl)) rfl
                          have e124 : a.tmps[124]? = some (bF) := by rw [ha]; exact putSel_on (e := (20, 124, bF)) 16 rfl rfl (hon 20 (by kernel_rfl)) rfl
                          replace ha := Aside0.mk ha
                          have ab := Aside0.mk af
                          have aa := Aside0.mk ag
                          have ac := Aside0.mk ah
                          have ae := Aside0.mk aq
                          have ai := Aside0.mk ar
                          have aj := Aside0.mk au
                          have av := am (ay (hoff 23 (by kernel_rfl)))
                          have aw := am (ax (hoff 25 (by kernel_rfl)))
                          have HB := Aside0.mk Q_HB
                          have bC := am (aJ (hon 7 (by kernel_rfl)))
                          have bN := am (aN (hon 9 (by kernel_rfl)))
                          have bV := am (aW (hon 10 (by kernel_rfl)))
                          have cz := am (aY (hon 14 (by kernel_rfl)) hb_)
                          have b3 := am (aG (hon 18 (by kernel_rfl)))
                          have cc := am (aP (hon 20 (by kernel_rfl)))
                          obtain ⟨gz, gA, fG⟩ := Kd.R_slice cc.out
                          (first | subst fG | (injection fG with f1_ f2_ f3_; have f4_ := f1_.symm; have f5_ := f3_.symm; clear f1_ f2_ f3_; subst f4_; subst f5_))
                          refine Kd.R_append_rows_step Kd.string (w0 := w) w.heap.size (by rfl) (.tmp 118) (.tmp 124) 29 9 (.string ⟨#[]⟩) 16 rfl Tryd.underlying29 info9 rfl (by decide) (by omega) bK cb b1 _ _ _ (fun k_ => some k_ ≠ (.slice aA ak.length az : Value).ownBlock ∧ some k_ ≠ (.slice aD ap.length aC : Value).ownBlock ∧ some k_ ≠ (.slice aD ap.length aC : Value).ownBlock) (fun _ => False) (evq_ e118) (evq_ e124) ?aO ?aR (fun _ _ h => h) (fun _ h => h.elim) ?aF ?aB ?aS ?aL ?_
                          (case aR => repeat (first | exact (Kd.R_reads' cc.out).2.2 | (with_reducible refine Kd.C_alloc ?_ _) | (with_reducible refine Kd.C_drewN ?_ _) | (with_reducible refine Kd.C_drew ?_)))
                          (case aB => exact (eT HB.out))
                          (case aF => exact (fun k_ hk => ⟨Kd.fresh' (Kd.R_lt (rT ab.out)) k_ hk, Kd.fresh' (Kd.R_lt (rT aa.out)) k_ hk, Kd.fresh' (Kd.R_lt (rT ac.out)) k_ hk⟩))
                          (case aO => exact (rT cz.out))
                          (case aS => exact (below_size (eT HB.out)))
                          (case aL => have := LMc72.out; omega)
                          intro bL jL ho hb hg hat
                          have S_ := am (Sep_.sb3 Q_S hg.size (Kd.R_lt ho) (like_at hat))
                          rw [← Ny286.out] at ho
                          replace ab := am (Kd.R_after (by (with_reducible repeat (first | apply Kd.R_alloc | apply Kd.R_drewN | apply Kd.R_drew)); exact R_sepO ab.out (fun k hk => ((cz.out.1 k hk).1))) hg hat)
                          replace aa := am (Kd.R_after (by (with_reducible repeat (first | apply Kd.R_alloc | apply Kd.R_drewN | apply Kd.R_drew)); exact R_sepO aa.out (fun k hk => ((cz.out.1 k hk).2.1))) hg hat)
                          replace ac := am (Kd.R_after (by (with_reducible repeat (first | apply Kd.R_alloc | apply Kd.R_drewN | apply Kd.R_drew)); exact R_sepO ac.out (fun k hk => ((cz.out.1 k hk).2.2))) hg hat)
                          replace ae := am (blk_grown (g := aK) (o := .cells #[.string al, .string an, .string ao, .slice aA ak.length az] 36 (0, 0)) (bT ae.out) hg (Kd.R_ne cz.out ae.out (by decide)))
                          replace ai := am (blk_grown (g := aZ) (o := .cells #[.string al, .string an, .string ao, .slice aD ap.length aC] 36 (0, 0)) (bT ai.out) hg (Kd.R_ne cz.out ai.out (by decide)))
                          replace aj := am (blk_grown (g := aE) (o := .cells #[.string al, .string an, .string b4, .slice aD ap.length aC] 36 (0, 0)) (bT aj.out) hg (Kd.R_ne cz.out aj.out (by decide)))
                          replace av := am (blk_grown (g := aH) (o := .cells #[.string al, .string an, .string ao, .slice aA ak.length az] 36 (0, 0)) (bT av.out) hg (Kd.R_ne cz.out av.out (by decide)))
                          replace aw := am (blk_grown (g := aI) (o := .cells #[.string al, .string an, .string ao, .slice aA ak.length az] 36 (0, 0)) (bT aw.out) hg (Kd.R_ne cz.out aw.out (by decide)))
                          replace bC := am (Kd.R_over' (rT bC.out) (Kd.R_typed (rT cz.out)) (by decide) hg)
                          replace bN := am (Kd.R_after (by (with_reducible repeat (first | apply Kd.R_alloc | apply Kd.R_drewN | apply Kd.R_drew)); exact R_sepO bN.out (Q_S.bd _ (by simp) _ (by simp))) hg hat)
                          replace bV := am (Kd.R_after (by (with_reducible repeat (first | apply Kd.R_alloc | apply Kd.R_drewN | apply Kd.R_drew)); exact R_sepO bV.out ((Q_S.ad _ (by simp) _ (by simp)).symm)) hg hat)
                          replace b3 := am (Kd.R_over' (rT b3.out) (Kd.R_typed (rT cz.out)) (by decide) hg)
                          replace cc := am (Kd.R_after (by (with_reducible repeat (first | apply Kd.R_alloc | apply Kd.R_drewN | apply Kd.R_drew)); exact R_sepO cc.out (Q_S.bd _ (by simp) _ (by simp))) hg hat)
                          replace HB := am (hb)
                          have ci := am (ho)
                          clear cz ho hb hg hat
                          refine hK.out _ _ ⟨bD, bE, bJ, bH, bI, bw, bK, bG, .slice gz b1.length gA, bL, (by rw [ha.out]; exact putSel_upk 17 hb_ rfl rfl rfl), (by (with_reducible repeat (first | apply Kd.R_alloc | apply Kd.R_drewN | apply Kd.R_drew)); exact Kd.R_mono ab.out (fun _ hk => by (with_reducible first | exact hk | exact hk.1 | exact ⟨hk.1.1.2, hk.1.2, hk.2⟩ | exact hk.1.1 | (simp only [hk, ne_eq, not_false_eq_true, and_self])))), (by (with_reducible repeat (first | apply Kd.R_alloc | apply Kd.R_drewN | apply Kd.R_drew)); exact Kd.R_mono aa.out (fun _ hk => by (with_reducible first | exact hk | exact hk.1 | exact ⟨hk.1.1.2, hk.1.2, hk.2⟩ | exact hk.1.1 | (simp only [hk, ne_eq, not_false_eq_true, and_self])))), (by (with_reducible repeat (first | apply Kd.R_alloc | apply Kd.R_drewN | apply Kd.R_drew)); exact Kd.R_mono ac.out (fun _ hk => by (with_reducible first | exact hk | exact hk.1 | exact ⟨hk.1.1.2, hk.1.2, hk.2⟩ | exact hk.1.1 | (simp only [hk, ne_eq, not_false_eq_true, and_self])))), (bT ae.out), (bT ai.out), (bT aj.out), fun _ => (bT av.out), fun _ => (bT aw.out), (eT HB.out), fun _ h1_ => absurd ((hon 3 (by kernel_rfl)).symm.trans h1_) (by decide), fun _ h1_ => absurd ((hon 10 (by kernel_rfl)).symm.trans h1_) (by decide), fun _ => (rT bC.out), fun _ => (by (with_reducible repeat (first | apply Kd.R_alloc | apply Kd.R_drewN | apply Kd.R_drew)); exact Kd.R_mono bN.out (fun _ hk => by (with_reducible first | exact hk | exact hk.1 | exact ⟨hk.1.1.2, hk.1.2, hk.2⟩ | exact hk.1.1 | (simp only [hk, ne_eq, not_false_eq_true, and_self])))), fun _ => (by (with_reducible repeat (first | apply Kd.R_alloc | apply Kd.R_drewN | apply Kd.R_drew)); exact Kd.R_mono bV.out (fun _ hk => by (with_reducible first | exact hk | exact hk.1 | exact ⟨hk.1.1.2, hk.1.2, hk.2⟩ | exact hk.1.1 | (simp only [hk, ne_eq, not_false_eq_true, and_self])))), fun _ h1_ => absurd ((hon 14 (by kernel_rfl)).symm.trans h1_) (by decide), fun _ h1_ => absurd ((up_self b 21).symm.trans h1_) (by decide), fun _ => (rT b3.out), fun _ => (by (with_reducible repeat (first | apply Kd.R_alloc | apply Kd.R_drewN | apply Kd.R_drew)); exact Kd.R_mono cc.out (fun _ hk => by (with_reducible first | exact hk | exact hk.1 | exact ⟨hk.1.1.2, hk.1.2, hk.2⟩ | exact hk.1.1 | (simp only [hk, ne_eq, not_false_eq_true, and_self])))), fun _ => (by (with_reducible repeat (first | apply Kd.R_alloc | apply Kd.R_drewN | apply Kd.R_drew)); exact Kd.R_mono ci.out (fun _ hk => by (with_reducible first | exact hk | exact hk.1 | exact ⟨hk.1.1.2, hk.1.2, hk.2⟩ | exact hk.1.1 | (simp only [hk, ne_eq, not_false_eq_true, and_self])))), xo_ (hoff 23 (by kernel_rfl)), xo_ (hoff 25 (by kernel_rfl)), S_.out⟩
                         refine steps_cons ?_ ?_
                         ·rintro b a w' ⟨bD, bE, bJ, bH, bI, bw, bK, bG, bF, bL, ha, af, ag, ah, aq, ar, au, ay, ax, Q_HB, aV, aX, aJ, aN, aW, aQ, aY, aG, aP, a6, aM, aU, Q_S⟩ hb_ hon hoff
                          refine ⟨_, rfl, fun K hK => ?_⟩
                          have e20 : a.tmps[20]? = some (.pointer (some ⟨aH, 0, none⟩)) := by rw [ha]; exact (putSel_off rfl).trans rfl
                          replace ha := Aside0.mk ha
                          have ab := Aside0.mk af
                          have aa := Aside0.mk ag
                          have ac := Aside0.mk ah
                          have ae := Aside0.mk aq
                          have ai := Aside0.mk ar
                          have aj := Aside0.mk au
                          have av := am (ay (hoff 23 (by kernel_rfl)))
                          have aw := am (ax (hoff 25 (by kernel_rfl)))
                          have HB := Aside0.mk Q_HB
                          have bC := am (aJ (hon 7 (by kernel_rfl)))
                          have bN := am (aN (hon 9 (by kernel_rfl)))
                          have bV := am (aW (hon 10 (by kernel_rfl)))
                          refine value_ (w1 := w') (v := .pointer (some ⟨aH, 3, none⟩)) (by rfl) rfl ?_ ?_
                          ·go_simp
                           (try simp only [i64_w])
                           try rfl
                          refine hK.out _ _ ⟨bD, bE, bJ, bH, bI, bw, bK, bG, bF, bL, (by rw [ha.out]; exact putSel_upk 18 hb_ rfl rfl rfl), af, ag, ah, aq, ar, au, ay, ax, Q_HB, fun _ h1_ => absurd ((hon 3 (by kernel_rfl)).symm.trans h1_) (by decide), fun _ h1_ => absurd ((hon 10 (by kernel_rfl)).symm.trans h1_) (by decide), aJ, aN, aW, aQ, aY, aG, aP, a6, xo_ (hoff 23 (by kernel_rfl)), xo_ (hoff 25 (by kernel_rfl)), Q_S⟩
                         refine steps_cons ?_ ?_
                         ·rintro b a w' ⟨bD, bE, bJ, bH, bI, bw, bK, bG, bF, bL, ha, af, ag, ah, aq, ar, au, ay, ax, Q_HB, aV, aX, aJ, aN, aW, aQ, aY, aG, aP, a6, aM, aU, Q_S⟩ hb_ hon hoff
                          refine ⟨_, rfl, fun K hK => ?_⟩
                          have e126 : a.tmps[126]? = some (.pointer (some ⟨aH, 3, none⟩)) := by rw [ha]; exact putSel_on (e := (22, 126, .pointer (some ⟨aH, 3, none⟩))) 18 rfl rfl (hon 22 (by kernel_rfl)) rfl
                          have e114 : a.tmps[114]? = some (bI) := by rw [ha]; exact putSel_on (e := (10, 114, bI)) 8 rfl rfl (hon 10 (by kernel_rfl)) rfl
                          replace ha := Aside0.mk ha
                          have ab := Aside0.mk af
                          have aa := Aside0.mk ag
                          have ac := Aside0.mk ah
                          have ae := Aside0.mk aq
                          have ai := Aside0.mk ar
                          have aj := Aside0.mk au
                          have av := am (ay hb_)
                          have aw := am (ax (hoff 25 (by kernel_rfl)))
                          have HB := Aside0.mk Q_HB
                          have bC := am (aJ (hon 7 (by kernel_rfl)))
                          have bN := am (aN (hon 9 (by kernel_rfl)))
                          have bV := am (aW (hon 10 (by kernel_rfl)))
                          have b3 := am (aG (hon 18 (by kernel_rfl)))
                          have cc := am (aP (hon 20 (by kernel_rfl)))
                          have ci := am (a6 (hon 21 (by kernel_rfl)))
                          obtain ⟨cO, cP, fH⟩ := Kd.R_slice bV.out
                          (first | subst fH | (injection fH with f1_ f2_ f3_; have f4_ := f1_.symm; have f5_ := f3_.symm; clear f1_ f2_ f3_; subst f4_; subst f5_))
                          have jw : w'.cell? ⟨aH, 3, none⟩ = some (.slice aA ak.length az) := cT av 3
                          have iL := blk_frozen av.out 3
                          have gB := bp.out
                          have gC := bq.out
                          have gD := br.out
                          have gE := a7.out
                          have gF := bO.out
                          have gG := bP.out
                          have gH := bQ.out
                          have gI := a8.out
                          refine skip_ (w1 := ?_) (by rfl) rfl ?_ ?_
                          rotate_left
                          ·go_simp
                           rfl
                          refine hK.out _ _ ⟨bD, bE, bJ, bH, .slice cO cy.length cP, bw, bK, bG, bF, bL, (by rw [ha.out]; exact putSel_none (v := undef) rfl), (by (with_reducible repeat (first | apply Kd.R_alloc | apply Kd.R_drewN | apply Kd.R_drew)); exact Kd.R_mono (Kd.R_far (p := ⟨aH, 3, none⟩) (Kd.R_types ab.out av.out (by decide)) (fun _ hk => hk.2) (.slice cO cy.length cP)) (fun _ hk => by (with_reducible first | exact hk | exact hk.1 | exact ⟨hk.1.1.2, hk.1.2, hk.2⟩ | exact hk.1.1 | (simp only [hk, ne_eq, not_false_eq_true, and_self])))), (by (with_reducible repeat (first | apply Kd.R_alloc | apply Kd.R_drewN | apply Kd.R_drew)); exact Kd.R_mono (Kd.R_far (p := ⟨aH, 3, none⟩) (Kd.R_types aa.out av.out (by decide)) (fun _ hk => hk.2) (.slice cO cy.length cP)) (fun _ hk => by (with_reducible first | exact hk | exact hk.1 | exact ⟨hk.1.1.2, hk.1.2, hk.2⟩ | exact hk.1.1 | (simp only [hk, ne_eq, not_false_eq_true, and_self])))), (by (with_reducible repeat (first | apply Kd.R_alloc | apply Kd.R_drewN | apply Kd.R_drew)); exact Kd.R_mono (Kd.R_far (p := ⟨aH, 3, none⟩) (Kd.R_types ac.out av.out (by decide)) (fun _ hk => hk.2) (.slice cO cy.length cP)) (fun _ hk => by (with_reducible first | exact hk | exact hk.1 | exact ⟨hk.1.1.2, hk.1.2, hk.2⟩ | exact hk.1.1 | (simp only [hk, ne_eq, not_false_eq_true, and_self])))), (by (with_reducible repeat (first | apply bn | apply bd | apply ba)); refine blk_far ?_ bp.out _; exact bT ae.out), (by (with_reducible repeat (first | apply bn | apply bd | apply ba)); refine blk_far ?_ bq.out _; exact bT ai.out), (by (with_reducible repeat (first | apply bn | apply bd | apply ba)); refine blk_far ?_ br.out _; exact bT aj.out), fun h0_ => absurd ((up_self b 23).symm.trans h0_) (by decide), fun _ => (by (with_reducible repeat (first | apply bn | apply bd | apply ba)); refine blk_far ?_ a7.out _; exact bT aw.out), (by repeat (first | (with_reducible first | exact HB.out | apply pA | apply pN | apply pD | refine eU ?_ (by assumption)) | exact HB.out)), fun _ h1_ => absurd ((hon 3 (by kernel_rfl)).symm.trans h1_) (by decide), fun _ h1_ => absurd ((hon 10 (by kernel_rfl)).symm.trans h1_) (by decide), fun _ => (by (with_reducible repeat (first | apply Kd.R_alloc | apply Kd.R_drewN | apply Kd.R_drew)); exact Kd.R_mono (Kd.R_far (p := ⟨aH, 3, none⟩) (Kd.R_types bC.out av.out (by decide)) (fun _ hk => hk.2) (.slice cO cy.length cP)) (fun _ hk => hk.1)), fun _ => (by (with_reducible repeat (first | apply Kd.R_alloc | apply Kd.R_drewN | apply Kd.R_drew)); exact Kd.R_mono (Kd.R_far (p := ⟨aH, 3, none⟩) (Kd.R_types bN.out av.out (by decide)) (fun _ hk => hk.2) (.slice cO cy.length cP)) (fun _ hk => by (with_reducible first | exact hk | exact hk.1 | exact ⟨hk.1.1.2, hk.1.2, hk.2⟩ | exact hk.1.1 | (simp only [hk, ne_eq, not_false_eq_true, and_self])))), fun _ => (by (with_reducible repeat (first | apply Kd.R_alloc | apply Kd.R_drewN | apply Kd.R_drew)); exact Kd.R_mono (Kd.R_far (p := ⟨aH, 3, none⟩) (Kd.R_types bV.out av.out (by decide)) (fun _ hk => hk.2) (.slice cO cy.length cP)) (fun _ hk => by (with_reducible first | exact hk | exact hk.1 | exact ⟨hk.1.1.2, hk.1.2, hk.2⟩ | exact hk.1.1 | (simp only [hk, ne_eq, not_false_eq_true, and_self])))), fun _ h1_ => absurd ((hon 14 (by kernel_rfl)).symm.trans h1_) (by decide), fun _ h1_ => absurd ((hon 21 (by kernel_rfl)).symm.trans h1_) (by decide), fun _ => (by (with_reducible repeat (first | apply Kd.R_alloc | apply Kd.R_drewN | apply Kd.R_drew)); exact Kd.R_mono (Kd.R_far (p := ⟨aH, 3, none⟩) (Kd.R_types b3.out av.out (by decide)) (fun _ hk => hk.2) (.slice cO cy.length cP)) (fun _ hk => hk.1)), fun _ => (by (with_reducible repeat (first | apply Kd.R_alloc | apply Kd.R_drewN | apply Kd.R_drew)); exact Kd.R_mono (Kd.R_far (p := ⟨aH, 3, none⟩) (Kd.R_types cc.out av.out (by decide)) (fun _ hk => hk.2) (.slice cO cy.length cP)) (fun _ hk => by (with_reducible first | exact hk | exact hk.1 | exact ⟨hk.1.1.2, hk.1.2, hk.2⟩ | exact hk.1.1 | (simp only [hk, ne_eq, not_false_eq_true, and_self])))), fun _ => (by (with_reducible repeat (first | apply Kd.R_alloc | apply Kd.R_drewN | apply Kd.R_drew)); exact Kd.R_mono (Kd.R_far (p := ⟨aH, 3, none⟩) (Kd.R_types ci.out av.out (by decide)) (fun _ hk => hk.2) (.slice cO cy.length cP)) (fun _ hk => by (with_reducible first | exact hk | exact hk.1 | exact ⟨hk.1.1.2, hk.1.2, hk.2⟩ | exact hk.1.1 | (simp only [hk, ne_eq, not_false_eq_true, and_self])))), fun _ => (by (with_reducible repeat (first | apply bn | apply bd | apply ba)); refine blk_put (cs := #[.string al, .string an, .string ao, .slice aA ak.length az]) ?_ 3 _ rfl; exact bT av.out), xo_ (hoff 25 (by kernel_rfl)), Q_S.set _ _⟩
                         refine steps_cons ?_ ?_
                         ·rintro b a w' ⟨bD, bE, bJ, bH, bI, bw, bK, bG, bF, bL, ha, af, ag, ah, aq, ar, au, ay, ax, Q_HB, aV, aX, aJ, aN, aW, aQ, aY, aG, aP, a6, aM, aU, Q_S⟩ hb_ hon hoff
                          refine ⟨_, rfl, fun K hK => ?_⟩
                          have e21 : a.tmps[21]? = some (.pointer (some ⟨aI, 0, none⟩)) := by rw [ha]; exact (putSel_off rfl).trans rfl
                          replace ha := Aside0.mk ha
                          have ab := Aside0.mk af
                          have aa := Aside0.mk ag
                          have ac := Aside0.mk ah
                          have ae := Aside0.mk aq
                          have ai := Aside0.mk ar
                          have aj := Aside0.mk au
                          have aw := am (ax (hoff 25 (by kernel_rfl)))
                          have HB := Aside0.mk Q_HB
                          have bC := am (aJ (hon 7 (by kernel_rfl)))
                          have bN := am (aN (hon 9 (by kernel_rfl)))
                          have bV := am (aW (hon 10 (by kernel_rfl)))
                          have b3 := am (aG (hon 18 (by kernel_rfl)))
                          have cc := am (aP (hon 20 (by kernel_rfl)))
                          have ci := am (a6 (hon 21 (by kernel_rfl)))
                          have av := am (aM (hon 23 (by kernel_rfl)))
                          refine value_ (w1 := w') (v := .pointer (some ⟨aI, 3, none⟩)) (by rfl) rfl ?_ ?_
                          ·go_simp
                           (try simp only [i64_w])
                           try rfl
                          refine hK.out _ _ ⟨bD, bE, bJ, bH, bI, bw, bK, bG, bF, bL, (by rw [ha.out]; exact putSel_upk 19 hb_ rfl rfl rfl), af, ag, ah, aq, ar, au, fun h0_ => absurd ((hon 23 (by kernel_rfl)).symm.trans h0_) (by decide), ax, Q_HB, fun _ h1_ => absurd ((hon 3 (by kernel_rfl)).symm.trans h1_) (by decide), fun _ h1_ => absurd ((hon 10 (by kernel_rfl)).symm.trans h1_) (by decide), aJ, aN, aW, fun _ h1_ => absurd ((hon 14 (by kernel_rfl)).symm.trans h1_) (by decide), fun _ h1_ => absurd ((hon 21 (by kernel_rfl)).symm.trans h1_) (by decide), aG, aP, a6, aM, xo_ (hoff 25 (by kernel_rfl)), Q_S⟩
                         refine steps_cons ?_ ?_
                         ·rintro b a w' ⟨bD, bE, bJ, bH, bI, bw, bK, bG, bF, bL, ha, af, ag, ah, aq, ar, au, ay, ax, Q_HB, aV, aX, aJ, aN, aW, aQ, aY, aG, aP, a6, aM, aU, Q_S⟩ hb_ hon hoff
                          refine ⟨_, rfl, fun K hK => ?_⟩
                          have e127 : a.tmps[127]? = some (.pointer (some ⟨aI, 3, none⟩)) := by rw [ha]; exact putSel_on (e := (24, 127, .pointer (some ⟨aI, 3, none⟩))) 19 rfl rfl (hon 24 (by kernel_rfl)) rfl
                          have e125 : a.tmps[125]? = some (bL) := by rw [ha]; exact putSel_on (e := (21, 125, bL)) 17 rfl rfl (hon 21 (by kernel_rfl)) rfl
                          replace ha := Aside0.mk ha
                          have ab := Aside0.mk af
                          have aa := Aside0.mk ag
                          have ac := Aside0.mk ah
                          have ae := Aside0.mk aq
                          have ai := Aside0.mk ar
                          have aj := Aside0.mk au
                          have aw := am (ax hb_)
                          have HB := Aside0.mk Q_HB
                          have bC := am (aJ (hon 7 (by kernel_rfl)))
                          have bN := am (aN (hon 9 (by kernel_rfl)))
                          have bV := am (aW (hon 10 (by kernel_rfl)))
                          have b3 := am (aG (hon 18 (by kernel_rfl)))
                          have cc := am (aP (hon 20 (by kernel_rfl)))
                          have ci := am (a6 (hon 21 (by kernel_rfl)))
                          have av := am (aM (hon 23 (by kernel_rfl)))
                          obtain ⟨cQ, cR, fI⟩ := Kd.R_slice ci.out
                          (first | subst fI | (injection fI with f1_ f2_ f3_; have f4_ := f1_.symm; have f5_ := f3_.symm; clear f1_ f2_ f3_; subst f4_; subst f5_))
                          have jx : w'.cell? ⟨aI, 3, none⟩ = some (.slice aA ak.length az) := cT aw 3
                          have iM := blk_frozen aw.out 3
                          have gJ := bs.out
                          have gK := bt.out
                          have gM := bu.out
                          have gN := a8.out
                          have gO := bR.out
                          have gP := bS.out
                          have gQ := bU.out
                          have gR := a7.out
                          refine skip_ (w1 := ?_) (by rfl) rfl ?_ ?_
                          rotate_left
                          ·go_simp
                           rfl
                          refine hK.out _ _ ⟨bD, bE, bJ, bH, bI, bw, bK, bG, bF, .slice cQ cU.length cR, (by rw [ha.out]; exact putSel_none (v := undef) rfl), (by (with_reducible repeat (first | apply Kd.R_alloc | apply Kd.R_drewN | apply Kd.R_drew)); exact Kd.R_mono (Kd.R_far (p := ⟨aI, 3, none⟩) (Kd.R_types ab.out aw.out (by decide)) (fun _ hk => hk.2) (.slice cQ cU.length cR)) (fun _ hk => by (with_reducible first | exact hk | exact hk.1 | exact ⟨hk.1.1.2, hk.1.2, hk.2⟩ | exact hk.1.1 | (simp only [hk, ne_eq, not_false_eq_true, and_self])))), (by (with_reducible repeat (first | apply Kd.R_alloc | apply Kd.R_drewN | apply Kd.R_drew)); exact Kd.R_mono (Kd.R_far (p := ⟨aI, 3, none⟩) (Kd.R_types aa.out aw.out (by decide)) (fun _ hk => hk.2) (.slice cQ cU.length cR)) (fun _ hk => by (with_reducible first | exact hk | exact hk.1 | exact ⟨hk.1.1.2, hk.1.2, hk.2⟩ | exact hk.1.1 | (simp only [hk, ne_eq, not_false_eq_true, and_self])))), (by (with_reducible repeat (first | apply Kd.R_alloc | apply Kd.R_drewN | apply Kd.R_drew)); exact Kd.R_mono (Kd.R_far (p := ⟨aI, 3, none⟩) (Kd.R_types ac.out aw.out (by decide)) (fun _ hk => hk.2) (.slice cQ cU.length cR)) (fun _ hk => by (with_reducible first | exact hk | exact hk.1 | exact ⟨hk.1.1.2, hk.1.2, hk.2⟩ | exact hk.1.1 | (simp only [hk, ne_eq, not_false_eq_true, and_self])))), (by (with_reducible repeat (first | apply bn | apply bd | apply ba)); refine blk_far ?_ bs.out _; exact bT ae.out), (by (with_reducible repeat (first | apply bn | apply bd | apply ba)); refine blk_far ?_ bt.out _; exact bT ai.out), (by (with_reducible repeat (first | apply bn | apply bd | apply ba)); refine blk_far ?_ bu.out _; exact bT aj.out), fun h0_ => absurd ((hon 23 (by kernel_rfl)).symm.trans h0_) (by decide), fun h0_ => absurd ((up_self b 25).symm.trans h0_) (by decide), (by repeat (first | (with_reducible first | exact HB.out | apply pA | apply pN | apply pD | refine eU ?_ (by assumption)) | exact HB.out)), fun _ h1_ => absurd ((hon 3 (by kernel_rfl)).symm.trans h1_) (by decide), fun _ h1_ => absurd ((hon 10 (by kernel_rfl)).symm.trans h1_) (by decide), fun _ => (by (with_reducible repeat (first | apply Kd.R_alloc | apply Kd.R_drewN | apply Kd.R_drew)); exact Kd.R_mono (Kd.R_far (p := ⟨aI, 3, none⟩) (Kd.R_types bC.out aw.out (by decide)) (fun _ hk => hk.2) (.slice cQ cU.length cR)) (fun _ hk => hk.1)), fun _ => (by (with_reducible repeat (first | apply Kd.R_alloc | apply Kd.R_drewN | apply Kd.R_drew)); exact Kd.R_mono (Kd.R_far (p := ⟨aI, 3, none⟩) (Kd.R_types bN.out aw.out (by decide)) (fun _ hk => hk.2) (.slice cQ cU.length cR)) (fun _ hk => by (with_reducible first | exact hk | exact hk.1 | exact ⟨hk.1.1.2, hk.1.2, hk.2⟩ | exact hk.1.1 | (simp only [hk, ne_eq, not_false_eq_true, and_self])))), fun _ => (by (with_reducible repeat (first | apply Kd.R_alloc | apply Kd.R_drewN | apply Kd.R_drew)); exact Kd.R_mono (Kd.R_far (p := ⟨aI, 3, none⟩) (Kd.R_types bV.out aw.out (by decide)) (fun _ hk => hk.2) (.slice cQ cU.length cR)) (fun _ hk => by (with_reducible first | exact hk | exact hk.1 | exact ⟨hk.1.1.2, hk.1.2, hk.2⟩ | exact hk.1.1 | (simp only [hk, ne_eq, not_false_eq_true, and_self])))), fun _ h1_ => absurd ((hon 14 (by kernel_rfl)).symm.trans h1_) (by decide), fun _ h1_ => absurd ((hon 21 (by kernel_rfl)).symm.trans h1_) (by decide), fun _ => (by (with_reducible repeat (first | apply Kd.R_alloc | apply Kd.R_drewN | apply Kd.R_drew)); exact Kd.R_mono (Kd.R_far (p := ⟨aI, 3, none⟩) (Kd.R_types b3.out aw.out (by decide)) (fun _ hk => hk.2) (.slice cQ cU.length cR)) (fun _ hk => hk.1)), fun _ => (by (with_reducible repeat (first | apply Kd.R_alloc | apply Kd.R_drewN | apply Kd.R_drew)); exact Kd.R_mono (Kd.R_far (p := ⟨aI, 3, none⟩) (Kd.R_types cc.out aw.out (by decide)) (fun _ hk => hk.2) (.slice cQ cU.length cR)) (fun _ hk => by (with_reducible first | exact hk | exact hk.1 | exact ⟨hk.1.1.2, hk.1.2, hk.2⟩ | exact hk.1.1 | (simp only [hk, ne_eq, not_false_eq_true, and_self])))), fun _ => (by (with_reducible repeat (first | apply Kd.R_alloc | apply Kd.R_drewN | apply Kd.R_drew)); exact Kd.R_mono (Kd.R_far (p := ⟨aI, 3, none⟩) (Kd.R_types ci.out aw.out (by decide)) (fun _ hk => hk.2) (.slice cQ cU.length cR)) (fun _ hk => by (with_reducible first | exact hk | exact hk.1 | exact ⟨hk.1.1.2, hk.1.2, hk.2⟩ | exact hk.1.1 | (simp only [hk, ne_eq, not_false_eq_true, and_self])))), fun _ => (by (with_reducible repeat (first | apply bn | apply bd | apply ba)); refine blk_far ?_ a8.out _; exact bT av.out), fun _ => (by (with_reducible repeat (first | apply bn | apply bd | apply ba)); refine blk_put (cs := #[.string al, .string an, .string ao, .slice aA ak.length az]) ?_ 3 _ rfl; exact bT aw.out), Q_S.set _ _⟩
                         exact steps_nil
                        rintro b a fB hall ⟨bD, bE, bJ, bH, bI, bw, bK, bG, bF, bL, ha, af, ag, ah, aq, ar, au, ay, ax, Q_HB, aV, aX, aJ, aN, aW, aQ, aY, aG, aP, a6, aM, aU, Q_S⟩
                        clear ae ai aj av aw HB ab aa ac
                        have hb0_ := hall 0 (by kernel_rfl)
                        have hb2_ := hall 2 (by kernel_rfl)
                        have hb3_ := hall 3 (by kernel_rfl)
                        have hb5_ := hall 5 (by kernel_rfl)
                        have hb6_ := hall 6 (by kernel_rfl)
                        have hb7_ := hall 7 (by kernel_rfl)
                        have hb8_ := hall 8 (by kernel_rfl)
                        have hb9_ := hall 9 (by kernel_rfl)
                        have hb10_ := hall 10 (by kernel_rfl)
                        have hb11_ := hall 11 (by kernel_rfl)
                        have hb13_ := hall 13 (by kernel_rfl)
                        have hb14_ := hall 14 (by kernel_rfl)
                        have hb16_ := hall 16 (by kernel_rfl)
                        have hb17_ := hall 17 (by kernel_rfl)
                        have hb18_ := hall 18 (by kernel_rfl)
                        have hb19_ := hall 19 (by kernel_rfl)
                        have hb20_ := hall 20 (by kernel_rfl)
                        have hb21_ := hall 21 (by kernel_rfl)
                        have hb22_ := hall 22 (by kernel_rfl)
                        have hb23_ := hall 23 (by kernel_rfl)
                        have hb24_ := hall 24 (by kernel_rfl)
                        have hb25_ := hall 25 (by kernel_rfl)
                        subst ha
                        simp only [putSel, hb0_, hb2_, hb3_, hb5_, hb6_, hb7_, hb8_, hb9_, hb10_, hb11_, hb13_, hb14_, hb16_, hb17_, hb18_, hb19_, hb20_, hb21_, hb22_, hb23_, hb24_, hb25_, if_true, Act.put, List.setIfInBounds_toArray, List.set_cons_zero, List.set_cons_succ]
                        have ab := Aside0.mk af
                        clear af
                        have aa := Aside0.mk ag
                        clear ag
                        have ac := Aside0.mk ah
                        clear ah
                        have ae := Aside0.mk aq
                        clear aq
                        have ai := Aside0.mk ar
                        clear ar
                        have aj := Aside0.mk au
                        clear au ay ax
                        have HB := Aside0.mk Q_HB
                        clear Q_HB aV aX
                        have bC := am (aJ hb7_)
                        clear aJ
                        have bN := am (aN hb9_)
                        clear aN
                        have bV := am (aW hb10_)
                        clear aW aQ aY
                        have b3 := am (aG hb18_)
                        clear aG
                        have cc := am (aP hb20_)
                        clear aP
                        have ci := am (a6 hb21_)
                        clear a6
                        have av := am (aM hb23_)
                        clear aM
                        have aw := am (aU hb25_)
                        clear aU hall hb0_ hb2_ hb3_ hb5_ hb6_ hb7_ hb8_ hb9_ hb10_ hb11_ hb13_ hb14_ hb16_ hb17_ hb18_ hb19_ hb20_ hb21_ hb22_ hb23_ hb24_ hb25_
                        have iO := bO.out
                        have iP := bp.out
                        have iQ := bP.out
                        have iR := bq.out
                        have iT := bQ.out
                        have iU := br.out
                        have iV := a8.out
                        have iW := a7.out
                        have gS : fB.cell? ⟨aH, 0, none⟩ = some (.string al) := cT av 0
                        have gU : fB.cell? ⟨aH, 1, none⟩ = some (.string an) := cT av 1
                        have gV : fB.cell? ⟨aH, 2, none⟩ = some (.string ao) := cT av 2
                        have gW : fB.cell? ⟨aH, 3, none⟩ = some (bI) := cT av 3
                        have gX := blk_frozen av.out 0
                        have gY := blk_frozen av.out 1
                        have gZ := blk_frozen av.out 2
                        have g0 := blk_frozen av.out 3
                        obtain ⟨g1, g2, g3⟩ := Kd.R_slice bV.out
                        subst g3
                        try go_wp2_with (first | ((with_reducible refine gate_callee (f := 20) rfl ?_); refine gL (some 130) Tryd.func20 #[.agg #[.string al, .string an, .string ao, .slice g1 cy.length g2]] ?_; (with_reducible refine (version_Join.calls kj44 al an ao _ _ cy eN eg _ ?side1 ?side2 A73.out).mono ?_); (case side1 => repeat (first | exact (Kd.R_reads' bV.out).2.2 | (with_reducible refine Kd.C_alloc ?_ _) | (with_reducible refine Kd.C_drewN ?_ _) | (with_reducible refine Kd.C_drew ?_))); (case side2 => exact (Kd.R_reads' bV.out).2.1); rintro e fC ⟨rfl, hb⟩; refine ⟨_, rfl, ?_⟩; replace ab := am (rB ab.out hb); replace aa := am (rB aa.out hb); replace ac := am (rB ac.out hb); replace bC := am (rB bC.out hb); replace bN := am (rB bN.out hb); replace bV := am (rB bV.out hb); replace b3 := am (rB b3.out hb); replace cc := am (rB cc.out hb); replace ci := am (rB ci.out hb); replace ae := am (bB ae.out hb); replace ai := am (bB ai.out hb); replace aj := am (bB aj.out hb); replace av := am (bB av.out hb); replace aw := am (bB aw.out hb); replace HB := am (sT HB.out hb); (try clear hb); (try clear hb2); (try clear hk); (try clear hi); have iX := bR.out; have iY := bs.out; have iZ := bS.out; have i0 := bt.out; have i1 := bU.out; have i2 := bu.out; have g4 : fC.cell? ⟨aI, 0, none⟩ = some (.string al) := cT aw 0; have g5 : fC.cell? ⟨aI, 1, none⟩ = some (.string an) := cT aw 1; have g6 : fC.cell? ⟨aI, 2, none⟩ = some (.string ao) := cT aw 2; have g7 : fC.cell? ⟨aI, 3, none⟩ = some (bL) := cT aw 3; have g8 := blk_frozen aw.out 0; have g9 := blk_frozen aw.out 1; have g_ := blk_frozen aw.out 2; have hc := blk_frozen aw.out 3; obtain ⟨he, hf, hh⟩ := Kd.R_slice ci.out; subst hh) | ((with_reducible refine gate_callee (f := 20) rfl ?_); refine gL (some 135) Tryd.func20 #[.agg #[.string al, .string an, .string ao, .slice he cU.length hf]] ?_; (with_reducible refine (version_Join.calls kj44 al an ao _ _ cU fy ex _ ?side1 ?side2 A74.out).mono ?_); (case side1 => repeat (first | exact (Kd.R_reads' ci.out).2.2 | (with_reducible refine Kd.C_alloc ?_ _) | (with_reducible refine Kd.C_drewN ?_ _) | (with_reducible refine Kd.C_drew ?_))); (case side2 => exact (Kd.R_reads' ci.out).2.1); rintro e jM ⟨rfl, hb⟩; refine ⟨_, rfl, ?_⟩; replace ab := am (rB ab.out hb); replace aa := am (rB aa.out hb); replace ac := am (rB ac.out hb); replace bC := am (rB bC.out hb); replace bN := am (rB bN.out hb); replace bV := am (rB bV.out hb); replace b3 := am (rB b3.out hb); replace cc := am (rB cc.out hb); replace ci := am (rB ci.out hb); replace ae := am (bB ae.out hb); replace ai := am (bB ai.out hb); replace aj := am (bB aj.out hb); replace av := am (bB av.out hb); replace aw := am (bB aw.out hb); replace HB := am (sT HB.out hb); (try clear hb); (try clear hb2); (try clear hk); (try clear hi)) | ((with_reducible refine gate_callee (f := 11) rfl ?_); refine gL (some 141) Tryd.func11 #[.string eN, .string fy] ?_; (with_reducible refine (version_Cmp.calls kj44 eN fy ey ez _ A75.out).mono ?_); rintro e jN ⟨rfl, hb⟩; refine ⟨_, rfl, ?_⟩; replace ab := am (rB ab.out hb); replace aa := am (rB aa.out hb); replace ac := am (rB ac.out hb); replace bC := am (rB bC.out hb); replace bN := am (rB bN.out hb); replace bV := am (rB bV.out hb); replace b3 := am (rB b3.out hb); replace cc := am (rB cc.out hb); replace ci := am (rB ci.out hb); replace ae := am (bB ae.out hb); replace ai := am (bB ai.out hb); replace aj := am (bB aj.out hb); replace av := am (bB av.out hb); replace aw := am (bB aw.out hb); replace HB := am (sT HB.out hb); (try clear hb); (try clear hb2); (try clear hk); (try clear hi)) | (go_at_call 13; (with_reducible refine (graftwoodlaw03_awake.calls kj44  cf _ A85.out).mono ?_); rintro e jO ⟨rfl, hb⟩; replace ab := am (rB ab.out hb); replace aa := am (rB aa.out hb); replace ac := am (rB ac.out hb); replace bC := am (rB bC.out hb); replace bN := am (rB bN.out hb); replace bV := am (rB bV.out hb); replace b3 := am (rB b3.out hb); replace cc := am (rB cc.out hb); replace ci := am (rB ci.out hb); replace ae := am (bB ae.out hb); replace ai := am (bB ai.out hb); replace aj := am (bB aj.out hb); replace av := am (bB av.out hb); replace aw := am (bB aw.out hb); replace HB := am (sT HB.out hb); (try clear hb); (try clear hb2); (try clear hk); (try clear hi)))
                        go_ret
                        exact ⟨by first | rfl | (simp [errW_none, errW_some] <;> rfl) | (simp [*, errW_none, errW_some] <;> rfl), eT HB.out⟩
                       ·rw [if_neg c84] at H
                        have gr : (ez == 0) = false := beq_eq_false_iff_ne.mpr c84
                        have gs : (ez != 0) = true := bne_iff_ne.mpr c84
                        exact absurd ((Option.some.inj H).trans hR_) (by decide)
                      ·rw [if_neg c83] at H
                       have gp : (ey == (-1)) = false := beq_eq_false_iff_ne.mpr c83
                       have gq : (ey != (-1)) = true := bne_iff_ne.mpr c83
                       exact absurd ((Option.some.inj H).trans hR_) (by decide)
                     ·rw [if_neg c82] at H
                      have gn : (ex == 0) = false := beq_eq_false_iff_ne.mpr c82
                      have go : (ex != 0) = true := bne_iff_ne.mpr c82
                      exact absurd ((Option.some.inj H).trans hR_) (by decide)
                    ·rw [if_neg c81] at H
                     have gl : (eg == 0) = false := beq_eq_false_iff_ne.mpr c81
                     have gm : (eg != 0) = true := bne_iff_ne.mpr c81
                     exact absurd ((Option.some.inj H).trans hR_) (by decide)
                   ·rw [if_neg c80] at H
                    have gj : (bZ == 0) = false := beq_eq_false_iff_ne.mpr c80
                    have gk : (bZ != 0) = true := bne_iff_ne.mpr c80
                    exact absurd ((Option.some.inj H).trans hR_) (by decide)
                  ·rw [if_neg c79] at H
                   have gh : (bX == (-1)) = false := beq_eq_false_iff_ne.mpr c79
                   have gi : (bX != (-1)) = true := bne_iff_ne.mpr c79
                   exact absurd ((Option.some.inj H).trans hR_) (by decide)
                 ·rw [if_neg c78] at H
                  have gf : (bW == 0) = false := beq_eq_false_iff_ne.mpr c78
                  have gg : (bW != 0) = true := bne_iff_ne.mpr c78
                  exact absurd ((Option.some.inj H).trans hR_) (by decide)
                ·rw [if_neg c77] at H
                 have gd : (ck == 0) = false := beq_eq_false_iff_ne.mpr c77
                 have ge : (ck != 0) = true := bne_iff_ne.mpr c77
                 exact absurd ((Option.some.inj H).trans hR_) (by decide)
               ·rw [if_neg c76] at H
                have gb : (cj == bv) = false := beq_eq_false_iff_ne.mpr c76
                have gc : (cj != bv) = true := bne_iff_ne.mpr c76
                exact absurd ((Option.some.inj H).trans hR_) (by decide)
              ·rw [if_neg c72] at H
               exact absurd H (by simp)
             ·rw [if_neg c71] at H
              exact absurd H (by simp)
            ·rw [if_neg c70] at H
             exact absurd H (by simp)
           ·rw [if_neg c69] at H
            exact absurd H (by simp)
        ·rw [if_neg c42] at H
         exact absurd H (by simp)
  ·rw [if_neg c7] at H
   exact absurd H (by simp)
 ·rw [if_neg c6] at H
  exact absurd H (by simp)

end Go.Proofs.YtjadpeahoaogcaaDoor.P
