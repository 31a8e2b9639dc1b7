-- Written by this project's own program (wip/tools/hp.py), driving the kit's print; hand texts among it. Not trusted: Lean checks it.
import Derived.Test.YtomjppafgalaoaaGreatDoorSqz
import Derived.Test.YtomjppafgalaoaaGreatDoorP0
import Derived.Test.YtomjppafgalaoaaGreatDoorP3
import Derived.Test.YtomjppafgalaoaaGreatDoorP20
import Derived.Test.YtomjppafgalaoaaGreatDoorP22
import Derived.Test.YtomjppafgalaoaaGreatDoorP24
import Derived.Test.YtomjppafgalaoaaGreatDoorP27
import Derived.Test.YtomjppafgalaoaaGreatDoorP30
import Derived.Test.YtomjppafgalaoaaGreatDoorP31
import Derived.Test.YtomjppafgalaoaaGreatDoorP34
import Derived.Test.YtomjppafgalaoaaGreatDoorP35
import Derived.Test.YtomjppafgalaoaaGreatDoorP36
import Derived.Test.YtomjppafgalaoaaGreatDoorP37
namespace Go.Proofs.YtomjppafgalaoaaGreatDoor.P
open Go.RowKit Go.Proofs.YtomjppafgalaoaaGreatDoorW.PrintWords Go.Proofs.YtomjppafgalaoaaGreatDoorW.PrintLast Go.Proofs.YtomjppafgalaoaaGreatDoorW.PrintMore
attribute [local go_sem] max2_int min2_int max_two min_two max_three min_three max_four min_four
set_option linter.unusedVariables false
set_option linter.unusedSimpArgs false
set_option maxHeartbeats 8000000
set_option maxRecDepth 100000

-- half the indentation
/-! ### graftwoodlaw12_StoreTells: function 3 -/
mutual
def IST.j0 : Nat → ByteArray → ByteArray → Int → Int → Int → Bool → List (S27) → List ByteArray → ByteArray → ByteArray → List (S27) → List ByteArray → List (S27) → List ByteArray → Option (Bool)
 | 0, _, _, _, _, _, _, _, _, _, _, _, _, _, _ => none
 | k + 1, x2, x7, x8, x10, x12, x57, aY, aX, bh, bi, bt, bu, bk, bl => if x57 = true then (some false) else ((graftwoodref12_May.f k aY aX).bind fun b2 => (if b2 = true then ((graftwoodref05_May.f k bh bi).bind fun bD => (IST.j1 k x2 x7 x8 x10 x12 (!bD) aY aX bh bi bt bu bk bl)) else (IST.j1 k x2 x7 x8 x10 x12 true aY aX bh bi bt bu bk bl)))
def IST.j1 : Nat → ByteArray → ByteArray → Int → Int → Int → Bool → List (S27) → List ByteArray → ByteArray → ByteArray → List (S27) → List ByteArray → List (S27) → List ByteArray → Option (Bool)
 | 0, _, _, _, _, _, _, _, _, _, _, _, _, _, _ => none
 | k + 1, x2, x7, x8, x10, x12, x65, aY, aX, bh, bi, bt, bu, bk, bl => if x65 = true then (if x7.toList = ([] : List UInt8) then (if x8 = 1 then ((graftwoodref12_Same.f k bt bu aY aX).bind fun b3 => (if b3 = true then (if x10 = 1 then ((graftwoodref12_Same.f k bk bl aY aX).bind fun bG => (if bG = true then (if x12 = 1 then ((graftwoodlaw12_awake.f k).bind fun bv => (some bv)) else (some false)) else (some false))) else (some false)) else (some false))) else (some false)) else (some false)) else ((graftwoodref12_Put.f k aY aX bh bi x2).bind fun bt533 => ((graftwoodref12_Same.f k bt bu bt533.1 bt533.2).bind fun bL => (if bL = true then (IST.j2 k x7 x8 x12 (x10 != 0) aY aX bh bi bk bl) else (IST.j2 k x7 x8 x12 true aY aX bh bi bk bl))))
def IST.j2 : Nat → ByteArray → Int → Int → Bool → List (S27) → List ByteArray → ByteArray → ByteArray → List (S27) → List ByteArray → Option (Bool)
 | 0, _, _, _, _, _, _, _, _, _, _ => none
 | k + 1, x7, x8, x12, fD, aY, aX, bh, bi, bk, bl => if fD = true then (some false) else ((graftwoodref12_Place.f k aY aX bh bi).bind fun a5 => (if a5 < 0 then (if x7.toList = ([] : List UInt8) then (if x8 = 2 then ((graftwoodref12_Same.f k bk bl aY aX).bind fun bM => (if bM = true then (if x12 = 2 then ((graftwoodlaw12_awake.f k).bind fun bC => (some bC)) else (some false)) else (some false))) else (some false)) else (some false)) else (if 0 ≤ a5 then (if a5 < (aX.length : Int) then (if x7.toList = (rdOf ByteArray.empty aX a5).toList then (if x8 = 0 then ((graftwoodref12_Drop.f k aY aX bh bi).bind fun bt544 => ((graftwoodref12_Same.f k bk bl bt544.1 bt544.2).bind fun bH => (if bH = true then (if x12 = 0 then ((graftwoodlaw12_awake.f k).bind fun bw => (some bw)) else (some false)) else (some false)))) else (some false)) else (some false)) else (none)) else (none))))
end
def graftwoodlaw12_StoreTells.f (k : Nat) (l0_0 : List (S27)) (l0_1 : List ByteArray) (a1_0 : ByteArray) (a1_1 : ByteArray) (a2 : ByteArray) : Option (Bool) := (graftwoodlaw12_Few.f k l0_0 l0_1).bind fun bt497 => ((graftwoodlaw05_One.f a1_0 a1_1).bind fun bt503 => ((store_Get.f k bt497.1 bt497.2 bt503.1 bt503.2).bind fun bt505 => ((store_Put.f k bt497.1 bt497.2 bt503.1 bt503.2 a2).bind fun bt507 => ((store_Drop.f k bt497.1 bt497.2 bt503.1 bt503.2).bind fun bt515 => ((store_Check.f k bt497.1 bt497.2).bind fun bf => ((graftwoodref12_May.f k bt497.1 bt497.2).bind fun be => (if ((bf == 0) != be) = true then (IST.j0 k a2 bt505.1 bt505.2 bt507.2.2 bt515.2.2 true bt497.1 bt497.2 bt503.1 bt503.2 bt507.1 bt507.2.1 bt515.1 bt515.2.1) else ((store_Same.f k bt507.1 bt507.2.1 bt497.1 bt497.2).bind fun bc => ((graftwoodref12_Same.f k bt507.1 bt507.2.1 bt497.1 bt497.2).bind fun a_ => (if (bc != a_) = true then (IST.j0 k a2 bt505.1 bt505.2 bt507.2.2 bt515.2.2 true bt497.1 bt497.2 bt503.1 bt503.2 bt507.1 bt507.2.1 bt515.1 bt515.2.1) else ((store_Same.f k bt497.1 bt497.2 bt497.1 bt497.2).bind fun bj => (IST.j0 k a2 bt505.1 bt505.2 bt507.2.2 bt515.2.2 (!bj) bt497.1 bt497.2 bt503.1 bt503.2 bt507.1 bt507.2.1 bt515.1 bt515.2.1))))))))))))
theorem IST.mono_l : ∀ k, (∀ y0 y1 y2 y3 y4 y5 y6 y7 y8 y9 y10 y11 y12 y13, LeO (IST.j0 k y0 y1 y2 y3 y4 y5 y6 y7 y8 y9 y10 y11 y12 y13) (IST.j0 (k + 1) y0 y1 y2 y3 y4 y5 y6 y7 y8 y9 y10 y11 y12 y13)) ∧ (∀ y0 y1 y2 y3 y4 y5 y6 y7 y8 y9 y10 y11 y12 y13, LeO (IST.j1 k y0 y1 y2 y3 y4 y5 y6 y7 y8 y9 y10 y11 y12 y13) (IST.j1 (k + 1) y0 y1 y2 y3 y4 y5 y6 y7 y8 y9 y10 y11 y12 y13)) ∧ (∀ y0 y1 y2 y3 y4 y5 y6 y7 y8 y9, LeO (IST.j2 k y0 y1 y2 y3 y4 y5 y6 y7 y8 y9) (IST.j2 (k + 1) y0 y1 y2 y3 y4 y5 y6 y7 y8 y9))
 | 0 => ⟨fun _ _ _ _ _ _ _ _ _ _ _ _ _ _ r h => by simp [IST.j0] at h, fun _ _ _ _ _ _ _ _ _ _ _ _ _ _ r h => by simp [IST.j1] at h, fun _ _ _ _ _ _ _ _ _ _ r h => by simp [IST.j2] at h⟩
 | k + 1 => by
  obtain ⟨ih0, ih1, ih2⟩ := IST.mono_l k
  refine ⟨?_, ?_, ?_⟩
  ·intro y0 y1 y2 y3 y4 y5 y6 y7 y8 y9 y10 y11 y12 y13
   unfold IST.j0
   repeat' first | (with_reducible first | apply ih0 | apply ih1 | apply ih2 | apply graftwoodlaw12_Few.mono | apply graftwoodlaw12_awake.mono | apply graftwoodref05_May.mono | apply graftwoodref12_Drop.mono | apply graftwoodref12_May.mono | apply graftwoodref12_Place.mono | apply graftwoodref12_Put.mono | apply graftwoodref12_Same.mono | apply store_Check.mono | apply store_Drop.mono | apply store_Get.mono | apply store_Put.mono | apply store_Same.mono | apply LeO.refl | apply LeO.none | apply LeO.ite | refine LeO.bind ?_ (fun _ => ?_)) | apply ih0 | apply ih1 | apply ih2 | exact LeO.none _ | refine LeO.ite ?_ ?_ | refine LeO.bind ?_ (fun _ => ?_)
  ·intro y0 y1 y2 y3 y4 y5 y6 y7 y8 y9 y10 y11 y12 y13
   unfold IST.j1
   repeat' first | (with_reducible first | apply ih0 | apply ih1 | apply ih2 | apply graftwoodlaw12_Few.mono | apply graftwoodlaw12_awake.mono | apply graftwoodref05_May.mono | apply graftwoodref12_Drop.mono | apply graftwoodref12_May.mono | apply graftwoodref12_Place.mono | apply graftwoodref12_Put.mono | apply graftwoodref12_Same.mono | apply store_Check.mono | apply store_Drop.mono | apply store_Get.mono | apply store_Put.mono | apply store_Same.mono | apply LeO.refl | apply LeO.none | apply LeO.ite | refine LeO.bind ?_ (fun _ => ?_)) | apply ih0 | apply ih1 | apply ih2 | exact LeO.none _ | refine LeO.ite ?_ ?_ | refine LeO.bind ?_ (fun _ => ?_)
  ·intro y0 y1 y2 y3 y4 y5 y6 y7 y8 y9
   unfold IST.j2
   repeat' first | (with_reducible first | apply ih0 | apply ih1 | apply ih2 | apply graftwoodlaw12_Few.mono | apply graftwoodlaw12_awake.mono | apply graftwoodref05_May.mono | apply graftwoodref12_Drop.mono | apply graftwoodref12_May.mono | apply graftwoodref12_Place.mono | apply graftwoodref12_Put.mono | apply graftwoodref12_Same.mono | apply store_Check.mono | apply store_Drop.mono | apply store_Get.mono | apply store_Put.mono | apply store_Same.mono | apply LeO.refl | apply LeO.none | apply LeO.ite | refine LeO.bind ?_ (fun _ => ?_)) | apply ih0 | apply ih1 | apply ih2 | exact LeO.none _ | refine LeO.ite ?_ ?_ | refine LeO.bind ?_ (fun _ => ?_)
theorem graftwoodlaw12_StoreTells.mono : ∀ a0 a1 a2 a3 a4 k, LeO (graftwoodlaw12_StoreTells.f k a0 a1 a2 a3 a4) (graftwoodlaw12_StoreTells.f (k + 1) a0 a1 a2 a3 a4) := by
 intro a0 a1 a2 a3 a4 k
 obtain ⟨ih0, ih1, ih2⟩ := IST.mono_l k
 unfold graftwoodlaw12_StoreTells.f
 repeat' first | (with_reducible first | apply ih0 | apply ih1 | apply ih2 | apply graftwoodlaw12_Few.mono | apply graftwoodlaw12_awake.mono | apply graftwoodref05_May.mono | apply graftwoodref12_Drop.mono | apply graftwoodref12_May.mono | apply graftwoodref12_Place.mono | apply graftwoodref12_Put.mono | apply graftwoodref12_Same.mono | apply store_Check.mono | apply store_Drop.mono | apply store_Get.mono | apply store_Put.mono | apply store_Same.mono | apply LeO.refl | apply LeO.none | apply LeO.ite | refine LeO.bind ?_ (fun _ => ?_)) | apply ih0 | apply ih1 | apply ih2 | exact LeO.none _ | refine LeO.ite ?_ ?_ | refine LeO.bind ?_ (fun _ => ?_)
def IST.T5 : Bool × List (List Nat × List Nat) := (true, [([], []), ([0], [0]), ([1], [1]), ([], []), ([3, 1], [3]), ([2, 4], [2, 4]), ([5, 4], [5]), ([6], [6]), ([6], [6]), ([7, 8, 6, 6], [6, 7, 8]), ([6], [6]), ([6], [6]), ([10, 11, 9, 6], [6, 10, 11]), ([9, 12, 6], [6, 9, 12]), ([6, 13], [6, 13]), ([14, 12], [14]), ([15], [15]), ([15], [15]), ([16, 17, 15, 15], [15, 16, 17]), ([18, 15], [15, 18]), ([15, 19], [15, 19])])
def IST.B5 : List Nat := [0, 1, 3, 0, 11, 31, 63, 127, 127, 511, 127, 127, 4095, 8191, 16383, 32767, 65535, 65535, 262143, 524287, 1048575]
theorem IST.tab5 : rtab .any (opsOf Tryz.f3 5) = IST.T5 := by kernel_rfl
theorem IST.bits5 : waitsOk IST.T5.2 IST.B5 = true := by kernel_rfl
def IST.T9 : Bool × List (List Nat × List Nat) := (true, [([], []), ([], []), ([], []), ([], []), ([1, 2, 3], [1, 2, 3]), ([0, 4, 4], [0, 4]), ([5], [5]), ([6, 5], [6]), ([7], [7]), ([8, 7], [7, 8]), ([7, 9], [7, 9])])
def IST.B9 : List Nat := [0, 0, 0, 0, 14, 31, 63, 127, 255, 511, 1023]
theorem IST.tab9 : rtab .any (opsOf Tryz.f3 9) = IST.T9 := by kernel_rfl
theorem IST.bits9 : waitsOk IST.T9.2 IST.B9 = true := by kernel_rfl
def IST.T14 : Bool × List (List Nat × List Nat) := (true, [([], []), ([], []), ([1], [1]), ([], []), ([2, 3], [2, 3]), ([4], [4]), ([0, 5], [0, 5]), ([6], [6]), ([7], [7]), ([8, 7], [7, 8]), ([7, 9], [7, 9]), ([10, 7], [10]), ([11], [11]), ([11], [11]), ([11], [11]), ([13, 14, 11, 11], [11, 13, 14]), ([12, 15, 15, 11], [11, 12, 15]), ([11, 16], [11, 16]), ([17, 16], [17]), ([18], [18]), ([19, 18], [18, 19]), ([18, 20], [18, 20]), ([21, 18], [21]), ([22, 22], [22]), ([22, 23], [22, 23]), ([24, 23, 0, 1, 2, 3, 4, 5, 6, 7, 8, 9, 10, 11, 12, 13, 14, 15, 16, 17, 18, 19, 20, 21, 22, 23, 24], [24])])
def IST.B14 : List Nat := [0, 0, 2, 0, 14, 30, 63, 127, 255, 511, 1023, 2047, 4095, 4095, 4095, 28671, 65535, 131071, 262143, 524287, 1048575, 2097151, 4194303, 8388607, 16777215, 33554431]
theorem IST.tab14 : rtab .any (opsOf Tryz.f3 14) = IST.T14 := by kernel_rfl
theorem IST.bits14 : waitsOk IST.T14.2 IST.B14 = true := by kernel_rfl
theorem graftwoodlaw12_StoreTells.calls (k : Nat) (bN : Option Addr) (bO : Nat) (l0_0 : List (S27)) (bI : Option Addr) (bJ : Nat) (l0_1 : List ByteArray) (a1_0 : ByteArray) (a1_1 : ByteArray) (a2 : ByteArray) (r : Bool) (w : World) (hr0_0 : Kd.C k27 w bN l0_0.length l0_0) (hc0_0 : l0_0.length ≤ bO) (hr0_1 : Kd.C Kd.string w bI l0_1.length l0_1) (hc0_1 : l0_1.length ≤ bJ) (h : graftwoodlaw12_StoreTells.f k l0_0 l0_1 a1_0 a1_1 a2 = some r) (hR_ : r = true) :
  Calls Tryz.prog 3 #[.agg #[.slice bN l0_0.length bO, .slice bI l0_1.length bJ], .agg #[.string a1_0, .string a1_1], .string a2] w fun e w' => e = .returned (.bool r) ∧ Below w.heap.size w w' := by
 have hu25 := Tryz.underlying25
 have hu27 := Tryz.underlying27
 have da := Aside0.mk hr0_0
 have db := Aside0.mk hc0_0
 clear hr0_0 hc0_0
 have dc := Aside0.mk hr0_1
 have dd := Aside0.mk hc0_1
 clear hr0_1 hc0_1
 have HB := am (Below.refl w.heap.size w)
 unfold graftwoodlaw12_StoreTells.f at h; have H := h; clear h
 replace H := bnd H; obtain ⟨⟨ah, ag⟩, A4, H⟩ := H
 (try dsimp only at H)
 replace H := bnd H; obtain ⟨⟨aw, ax⟩, A5, H⟩ := H
 (try dsimp only at H)
 replace H := bnd H; obtain ⟨⟨aO, aP⟩, A6, H⟩ := H
 (try dsimp only at H)
 replace H := bnd H; obtain ⟨⟨aB, aC, aW⟩, A7, H⟩ := H
 (try dsimp only at H)
 replace H := bnd H; obtain ⟨⟨au, av, aM⟩, A8, H⟩ := H
 (try dsimp only at H)
 have HC9 := Aside0.mk H
 clear H
 go_enter Tryz.func3, Tryz.ntmps3
 try go_wp2_with (first | ((with_reducible refine gtD 3 ?_); refine xBx 3 25 #[.slice bN l0_0.length bO, .slice bI l0_1.length bJ] ?_; intro aq hg w10 hbox hb; have aa := am (hbox); have gn := am ((gTx hg HB.out)); have go := am ((gTx hg HB.out)); replace HB := am (sTx HB.out hb); clear hb hbox hg) | ((with_reducible refine gtD 4 ?_); refine xBx 4 27 #[.string a1_0, .string a1_1] ?_; intro ar hg w11 hbox hb; have ab := am (hbox); have gp := am ((gTx hg HB.out)); have gq := am ((gTx hg HB.out)); have aQ := am ((nT aa.out hg)); have aR := am ((mT aa.out hg)); replace aa := am (bB aa.out hb); replace HB := am (sTx HB.out hb); clear hb hbox hg))
 replace aa := am (blk_drew aa.out)
 replace ab := am (blk_drew ab.out)
 replace HB := am (below_drew1 HB.out)
 refine start_ (n := 6) (S := fun w' => w'.cell? ⟨aq, 0, none⟩ = some (.slice bN l0_0.length bO) ∧ w'.cell? ⟨aq, 1, none⟩ = some (.slice bI l0_1.length bJ) ∧ w'.cell? ⟨ar, 0, none⟩ = some (.string a1_0) ∧ w'.cell? ⟨ar, 1, none⟩ = some (.string a1_1)) (ds := [4, 5]) (bA 6 0) rfK rfl rfK ⟨cT aa 0, cT aa 1, cT ab 0, cT ab 1⟩ (fun hHeld => ?_)
 generalize w11.drew = w12 at aa ab HB hHeld ⊢
 refine take_ (i := 0) (N := some 14) (v := ?_) (a' := ?_) (bA 6 1) rfl rfl rfK (fun _ _ _ h => h) (Or.inl ⟨by rfl, ?_⟩) hHeld ?_ ?_
 rotate_left
 ·rintro w' ⟨s0, s1, s2, s3⟩
  go_simp
  with_reducible rfl
 rotate_left
 ·simp only [pS]
  rfl
 refine take_ (i := 2) (N := some 16) (v := ?_) (a' := ?_) (bA 6 5) rfl rfl rfK (fun _ _ _ h => h) (Or.inl ⟨by rfl, ?_⟩) hHeld ?_ ?_
 rotate_left
 ·rintro w' ⟨s0, s1, s2, s3⟩
  go_simp
  with_reducible rfl
 rotate_left
 ·simp only [pS]
  rfl
 refine one_ (i := 1) (N := some 15) (bA 6 7) rfl rfl rfK (by decide) (fun K hK => ?_)
 refine gS Tryz.func4 #[.agg #[.slice bN l0_0.length bO, .slice bI l0_1.length bJ]] ?_
 with_reducible refine (graftwoodlaw12_Few.calls k _ _ l0_0 _ _ l0_1 ah ag _ (cW (Kd.C_below da.out HB.out)) db.out (cW (Kd.C_below dc.out HB.out)) dd.out A4.out).mono ?_
 rintro e w13 ⟨ha, hc, rfl, ho0, ho1, hb⟩
 refine ⟨_, rfl, ?_⟩
 have ao := am (Kd.R_lower (Kd.R_newB ho0 (g := ar) (o := .cells #[.string a1_0, .string a1_1] 27 (0, 0)) (bT ab.out)) (below_size (eTx HB.out)))
 have ap := am (Kd.R_lower ho1 (below_size (eTx HB.out)))
 replace aa := am (bB aa.out hb)
 replace ab := am (bB ab.out hb)
 replace HB := am (sTx HB.out hb)
 refine hK.out _ _ ⟨cT aa 0, cT aa 1, cT ab 0, cT ab 1⟩ (fun hHeld => ?_)
 clear hK K
 refine mN 15 ?_
 refine one_ (i := 3) (N := some 17) (bA 6 15) rfl rfl rfK (by decide) (fun K hK => ?_)
 refine gS Tryz.func5 #[.agg #[.string a1_0, .string a1_1]] ?_
 with_reducible refine (graftwoodlaw05_One.calls a1_0 a1_1 aw ax _ A5.out).mono ?_
 rintro e w14 ⟨rfl, hb⟩
 refine ⟨_, rfl, ?_⟩
 replace ao := am (rB ao.out hb)
 replace ap := am (rB ap.out hb)
 replace aa := am (bB aa.out hb)
 replace ab := am (bB ab.out hb)
 replace HB := am (sTx HB.out hb)
 obtain ⟨aK, aJ, de⟩ := Kd.R_slice ao.out
 (first | subst de | (injection de with f1_ f2_ f3_; have f4_ := f1_.symm; have f5_ := f3_.symm; clear f1_ f2_ f3_; subst f4_; subst f5_))
 obtain ⟨aN, aL, df⟩ := Kd.R_slice ap.out
 (first | subst df | (injection df with f1_ f2_ f3_; have f4_ := f1_.symm; have f5_ := f3_.symm; clear f1_ f2_ f3_; subst f4_; subst f5_))
 refine hK.out _ _ ⟨cT aa 0, cT aa 1, cT ab 0, cT ab 1⟩ (fun hHeld => ?_)
 clear hK K
 refine mN 17 ?_
 refine last_ (i := 4) (N := none) (bA 6 31) rfl rfl rfK (by decide) (fun K hK => ?_)
 obtain ⟨he, gr⟩ := bxA aa
 have eZ := aR.out
 have e0 := aQ.out
 have hf : w14.cell? ⟨aq, 1, none⟩ = some (.slice bI l0_1.length bJ) := cT aa 1
 have gs := blk_frozen aa.out 1
 have e1 := aR.out
 have e2 := aQ.out
 refine skip_ (w1 := ?_) (by rfl) rfl ?_ ?_
 rotate_left
 ·go_simp
  rfl
 refine hK.out _ _ ?_
 clear hK K
 refine last_ (i := 5) (N := none) (bA 6 63) rfl rfl rfK (by decide) (fun K hK => ?_)
 obtain ⟨hh, gt⟩ := bxA ab
 have e3 := aQ.out
 have e4 := aR.out
 have hj : w14.cell? ⟨ar, 1, none⟩ = some (.string a1_1) := cT ab 1
 have gu := blk_frozen ab.out 1
 have e5 := aQ.out
 have e6 := aR.out
 refine skip_ (w1 := ?_) (by rfl) rfl ?_ ?_
 rotate_left
 ·go_simp
  rfl
 refine hK.out _ _ ?_
 clear hK K
 refine done_ rfK ?_
 have gv := aQ.out
 have gw := aR.out
 obtain ⟨e7, e8, e9, e_⟩ := bxB aa
 obtain ⟨fa, fb, fc, fd⟩ := bxB ab
 go_upto_region 5 with (first | ((with_reducible refine gtC 6 ?_); refine xCb 21 Tryz.func6 (store_Get.calls k _ _ ah _ _ ag aw ax aO aP _ ?side1 ((Kd.R_reads' ao.out).2.1) ?side3 ((Kd.R_reads' ap.out).2.1) A6.out) fun w24 hb => ?_; (case side1 => refine (Kd.R_reads' (e := 27) (base := w.heap.size) (ok := fun k_ => (True ∧ k_ ≠ ar)) (n := ah.length) (c := aJ) ?_).2.2; exact (by (with_reducible repeat (first | apply Kd.R_alloc | apply Kd.R_drewN | apply Kd.R_drew)); exact (Kd.R_mono (Kd.R_mono (Kd.R_far (p := ⟨ar, 1, none⟩) (Kd.R_far (p := ⟨ar, 0, none⟩) (Kd.R_far (p := ⟨aq, 1, none⟩) (Kd.R_far (p := ⟨aq, 0, none⟩) (Kd.R_mono (Kd.R_types ao.out aa.out (by decide)) (fun k_ hk => (⟨hk, hk.1.2⟩ : _ ∧ k_ ≠ ar))) (fun _ hk => hk.1.2) (.slice aK ah.length aJ)) (fun _ hk => hk.1.2) (.slice aN ag.length aL)) (fun _ hk => hk.2) (.string aw)) (fun _ hk => hk.2) (.string ax)) (fun _ h_ => h_.1)) (fun _ h_ => h_.1)))); (case side3 => refine (Kd.R_reads' (e := 9) (base := w.heap.size) (ok := fun k_ => True) (n := ag.length) (c := aL) ?_).2.2; exact (by (with_reducible repeat (first | apply Kd.R_alloc | apply Kd.R_drewN | apply Kd.R_drew)); exact (Kd.R_mono (Kd.R_mono (Kd.R_far (p := ⟨ar, 1, none⟩) (Kd.R_far (p := ⟨ar, 0, none⟩) (Kd.R_far (p := ⟨aq, 1, none⟩) (Kd.R_far (p := ⟨aq, 0, none⟩) (Kd.R_types (Kd.R_types ap.out aa.out (by decide)) ab.out (by decide)) (fun _ hk => hk.1.2) (.slice aK ah.length aJ)) (fun _ hk => hk.1.2) (.slice aN ag.length aL)) (fun _ hk => hk.2) (.string aw)) (fun _ hk => hk.2) (.string ax)) (fun _ h_ => h_.1)) (fun _ h_ => h_.1)))); replace ao := am (Kd.R_below (by (with_reducible repeat (first | apply Kd.R_alloc | apply Kd.R_drewN | apply Kd.R_drew)); exact (Kd.R_mono (Kd.R_mono (Kd.R_far (p := ⟨ar, 1, none⟩) (Kd.R_far (p := ⟨ar, 0, none⟩) (Kd.R_far (p := ⟨aq, 1, none⟩) (Kd.R_far (p := ⟨aq, 0, none⟩) (Kd.R_mono (Kd.R_types ao.out aa.out (by decide)) (fun k_ hk => (⟨hk, hk.1.2⟩ : _ ∧ k_ ≠ ar))) (fun _ hk => hk.1.2) (.slice aK ah.length aJ)) (fun _ hk => hk.1.2) (.slice aN ag.length aL)) (fun _ hk => hk.2) (.string aw)) (fun _ hk => hk.2) (.string ax)) (fun _ h_ => h_.1)) (fun _ h_ => h_.1))) hb); replace ap := am (Kd.R_below (by (with_reducible repeat (first | apply Kd.R_alloc | apply Kd.R_drewN | apply Kd.R_drew)); exact (Kd.R_mono (Kd.R_mono (Kd.R_far (p := ⟨ar, 1, none⟩) (Kd.R_far (p := ⟨ar, 0, none⟩) (Kd.R_far (p := ⟨aq, 1, none⟩) (Kd.R_far (p := ⟨aq, 0, none⟩) (Kd.R_types (Kd.R_types ap.out aa.out (by decide)) ab.out (by decide)) (fun _ hk => hk.1.2) (.slice aK ah.length aJ)) (fun _ hk => hk.1.2) (.slice aN ag.length aL)) (fun _ hk => hk.2) (.string aw)) (fun _ hk => hk.2) (.string ax)) (fun _ h_ => h_.1)) (fun _ h_ => h_.1))) hb); replace HB := am (sTx HB.out hb); replace aa := am (blk_below (g := aq) (o := .cells #[.slice aK ah.length aJ, .slice aN ag.length aL] 25 (0, 0)) kBk hb); replace ab := am (blk_below (g := ar) (o := .cells #[.string aw, .string ax] 27 (0, 0)) kBk hb); obtain ⟨fe, ff, fg, fh⟩ := bxB aa; obtain ⟨fi, fj, fk, fl⟩ := bxB ab) | ((with_reducible refine gtC 7 ?_); refine xCl 28 Tryz.func7 (store_Put.calls k (fun k_ => some k_ = (.slice aK ah.length aJ : Value).ownBlock) _ _ ah (fun k_ => some k_ = (.slice aN ag.length aL : Value).ownBlock) _ _ ag aw ax a2 aB aC aW _ (Kd.R_V (Kd.R_tight rfl (Kd.R_types (Kd.R_apart' (ao.out) (Kd.R_typed ap.out) (by decide)) aa.out (by decide)))) (Kd.R_V (Kd.R_tight rfl (Kd.R_types (Kd.R_types (Kd.R_apart' (ap.out) (Kd.R_typed ao.out) (by decide)) aa.out (by decide)) ab.out (by decide)))) A7.out) ?_; rintro e w27 ⟨hl, hm, rfl, ho0, ho1, hb⟩; refine ⟨_, rfl, ?_⟩; have az := am (Kd.V_lower (Kd.V_mono (ok' := fun k_ => k_ ≠ aq ∧ k_ ≠ ar) ho0 (fun k_ hk_ => ⟨Or.elim hk_ (fun hs_ => Or.elim hs_ (fun hs_ => ((Kd.R_types (Kd.R_apart' (ao.out) (Kd.R_typed ap.out) (by decide)) aa.out (by decide)).1 k_ hs_.symm).2) (fun hs_ => ((Kd.R_types (Kd.R_types (Kd.R_apart' (ap.out) (Kd.R_typed ao.out) (by decide)) aa.out (by decide)) ab.out (by decide)).1 k_ hs_.symm).1.2)) (fun hn_ => (Kd.freshB (g := aq) (o := .cells #[.slice aK ah.length aJ, .slice aN ag.length aL] 25 (0, 0)) (bT aa.out) k_ hn_)), Or.elim hk_ (fun hs_ => Or.elim hs_ (fun hs_ => ((Kd.R_types (Kd.R_apart' (ao.out) (Kd.R_typed ap.out) (by decide)) aa.out (by decide)).1 k_ hs_.symm).1.1.2) (fun hs_ => ((Kd.R_types (Kd.R_types (Kd.R_apart' (ap.out) (Kd.R_typed ao.out) (by decide)) aa.out (by decide)) ab.out (by decide)).1 k_ hs_.symm).2)) (fun hn_ => (Kd.freshB (g := ar) (o := .cells #[.string aw, .string ax] 27 (0, 0)) (bT ab.out) k_ hn_))⟩)) (below_size (eTx HB.out))); have aA := am (Kd.V_lower (Kd.V_mono (ok' := fun k_ => k_ ≠ aq ∧ k_ ≠ ar) ho1 (fun k_ hk_ => ⟨Or.elim hk_ (fun hs_ => Or.elim hs_ (fun hs_ => ((Kd.R_types (Kd.R_apart' (ao.out) (Kd.R_typed ap.out) (by decide)) aa.out (by decide)).1 k_ hs_.symm).2) (fun hs_ => ((Kd.R_types (Kd.R_types (Kd.R_apart' (ap.out) (Kd.R_typed ao.out) (by decide)) aa.out (by decide)) ab.out (by decide)).1 k_ hs_.symm).1.2)) (fun hn_ => (Kd.freshB (g := aq) (o := .cells #[.slice aK ah.length aJ, .slice aN ag.length aL] 25 (0, 0)) (bT aa.out) k_ hn_)), Or.elim hk_ (fun hs_ => Or.elim hs_ (fun hs_ => ((Kd.R_types (Kd.R_apart' (ao.out) (Kd.R_typed ap.out) (by decide)) aa.out (by decide)).1 k_ hs_.symm).1.1.2) (fun hs_ => ((Kd.R_types (Kd.R_types (Kd.R_apart' (ap.out) (Kd.R_typed ao.out) (by decide)) aa.out (by decide)) ab.out (by decide)).1 k_ hs_.symm).2)) (fun hn_ => (Kd.freshB (g := ar) (o := .cells #[.string aw, .string ax] 27 (0, 0)) (bT ab.out) k_ hn_))⟩)) (below_size (eTx HB.out))); replace ao := am (rB ao.out hb); replace ap := am (rB ap.out hb); replace aa := am (bB aa.out hb); replace ab := am (bB ab.out hb); replace HB := am (sTx HB.out hb)) | ((with_reducible refine gtD 9 ?_); refine xBx 9 25 #[.slice none 0 0, .slice none 0 0] ?_; intro ay hg w28 hbox hb; replace ao := am (rB ao.out hb); replace ap := am (rB ap.out hb); replace az := am (Kd.V_below (Kd.V_elderB (vT az.out) ay (Nat.le_of_eq hg.symm)) hb); replace aA := am (Kd.V_below (Kd.V_elderB (vT aA.out) ay (Nat.le_of_eq hg.symm)) hb); have ae := am (hbox); have gx := am ((gTx hg HB.out)); have gy := am ((gTx hg HB.out)); have bb := am ((nT aa.out hg)); have bm := am ((mT aa.out hg)); have bg := am ((nT ab.out hg)); have bp := am ((mT ab.out hg)); replace aa := am (bB aa.out hb); replace ab := am (bB ab.out hb); replace HB := am (sTx HB.out hb); clear hb hbox hg; obtain ⟨a6, a7, fE⟩ := Kd.V_slice az.out; subst fE; have gz := bm.out; have gA := bb.out; have gB := bp.out; have gC := bg.out; obtain ⟨fm, fn, fo, fp⟩ := bxB ae; obtain ⟨a8, a9, fF⟩ := Kd.V_slice aA.out; subst fF) | ((with_reducible refine gate_store (t := 25) (p := 9) rfl ?_); refine store_event (t := 25) (p := 9) (v := ?vo_w34) (w1 := ((w28.setCell ⟨ay, 0, none⟩ (.slice a6 aB.length a7)).setCell ⟨ay, 1, none⟩ (.slice a8 aC.length a9))) ?hg ?ho ?hn ?hr ?_; (case ho => rfl); (case hg => rfl); (case hn => rfl); (case hr => first | (go_simp; done) | (go_simp; rfl)); intro w34 hw; have n0_ : Aside0 (Kd.R k27 27 w34 w.heap.size (fun k_ => k_ ≠ ar) (.slice aK ah.length aJ) ah) := ⟨(by rw [hw]; exact (by (with_reducible repeat (first | apply Kd.R_alloc | apply Kd.R_drewN | apply Kd.R_drew)); exact Kd.R_mono (Kd.R_far (p := ⟨ay, 1, none⟩) (Kd.R_far (p := ⟨ay, 0, none⟩) (Kd.R_types ao.out ae.out (by decide)) (fun _ hk => hk.2) (.slice a6 aB.length a7)) (fun _ hk => hk.2) (.slice a8 aC.length a9)) (fun _ hk => hk.1.2)))⟩; have n1_ : Aside0 (Kd.R Kd.string 9 w34 w.heap.size (fun _ => True) (.slice aN ag.length aL) ag) := ⟨(by rw [hw]; exact (by (with_reducible repeat (first | apply Kd.R_alloc | apply Kd.R_drewN | apply Kd.R_drew)); exact Kd.R_mono (Kd.R_far (p := ⟨ay, 1, none⟩) (Kd.R_far (p := ⟨ay, 0, none⟩) (Kd.R_types ap.out ae.out (by decide)) (fun _ hk => hk.2) (.slice a6 aB.length a7)) (fun _ hk => hk.2) (.slice a8 aC.length a9)) (fun _ hk => trivial)))⟩; have n2_ : Aside0 (Kd.V k27 27 w34 w.heap.size (fun k_ => k_ ≠ aq ∧ k_ ≠ ar ∧ k_ ≠ ay) (.slice a6 aB.length a7) aB) := ⟨(by rw [hw]; exact (by (with_reducible repeat (first | apply Kd.V_alloc | apply Kd.V_drewN | apply Kd.V_drew)); exact Kd.V_mono (Kd.V_far (p := ⟨ay, 1, none⟩) (Kd.V_far (p := ⟨ay, 0, none⟩) (Kd.V_mono az.out (fun k_ hk => (⟨hk, hk.2⟩ : _ ∧ k_ ≠ ay))) (fun _ hk => hk.2) (.slice a6 aB.length a7)) (fun _ hk => hk.2) (.slice a8 aC.length a9)) (fun _ hk => ⟨hk.1.1.1, ⟨hk.1.1.2, hk.1.2⟩⟩)))⟩; have n3_ : Aside0 (Kd.V Kd.string 9 w34 w.heap.size (fun k_ => k_ ≠ aq ∧ k_ ≠ ar ∧ k_ ≠ ay) (.slice a8 aC.length a9) aC) := ⟨(by rw [hw]; exact (by (with_reducible repeat (first | apply Kd.V_alloc | apply Kd.V_drewN | apply Kd.V_drew)); exact Kd.V_mono (Kd.V_far (p := ⟨ay, 1, none⟩) (Kd.V_far (p := ⟨ay, 0, none⟩) (Kd.V_mono aA.out (fun k_ hk => (⟨hk, hk.2⟩ : _ ∧ k_ ≠ ay))) (fun _ hk => hk.2) (.slice a6 aB.length a7)) (fun _ hk => hk.2) (.slice a8 aC.length a9)) (fun _ hk => ⟨hk.1.1.1, ⟨hk.1.1.2, hk.1.2⟩⟩)))⟩; have n4_ : Aside0 (w34.heap[aq]? = some (.cells #[.slice aK ah.length aJ, .slice aN ag.length aL] 25 (0, 0))) := ⟨(by rw [hw]; exact kBk)⟩; have n5_ : Aside0 (w34.heap[ar]? = some (.cells #[.string aw, .string ax] 27 (0, 0))) := ⟨(by rw [hw]; exact kBk)⟩; have n6_ : Aside0 (w34.heap[ay]? = some (.cells #[.slice a6 aB.length a7, .slice a8 aC.length a9] 25 (0, 0))) := ⟨(by rw [hw]; exact kBk)⟩; have n7_ : Aside0 (Below w.heap.size w w34) := ⟨(by rw [hw]; exact (eTx HB.out))⟩; clear hw ao ap az aA aa ab ae HB; have ao := n0_; have ap := n1_; have az := n2_; have aA := n3_; have aa := n4_; have ab := n5_; have ae := n6_; have HB := n7_; clear n0_ n1_ n2_ n3_ n4_ n5_ n6_ n7_; obtain ⟨fq, fr, fs, ft⟩ := bxB aa; obtain ⟨fu, fv, fw, fx⟩ := bxB ab) | ((with_reducible refine gtC 8 ?_); refine xCl 34 Tryz.func8 (store_Drop.calls k (fun k_ => some k_ = (.slice aK ah.length aJ : Value).ownBlock) _ _ ah (fun k_ => some k_ = (.slice aN ag.length aL : Value).ownBlock) _ _ ag aw ax au av aM _ (Kd.R_V (Kd.R_tight rfl (Kd.R_types (Kd.R_types (Kd.R_apart' (ao.out) (Kd.R_typed ap.out) (by decide)) aa.out (by decide)) ae.out (by decide)))) (Kd.R_V (Kd.R_tight rfl (Kd.R_types (Kd.R_types (Kd.R_types (Kd.R_apart' (ap.out) (Kd.R_typed ao.out) (by decide)) aa.out (by decide)) ab.out (by decide)) ae.out (by decide)))) A8.out) ?_; rintro e w37 ⟨hq, hs, rfl, ho0, ho1, hb⟩; refine ⟨_, rfl, ?_⟩; replace az := am (vB az.out hb); replace aA := am (vB aA.out hb); have aH := am (Kd.V_lower (Kd.V_mono (ok' := fun k_ => k_ ≠ aq ∧ k_ ≠ ar ∧ k_ ≠ ay) ho0 (fun k_ hk_ => ⟨Or.elim hk_ (fun hs_ => Or.elim hs_ (fun hs_ => ((Kd.R_types (Kd.R_types (Kd.R_apart' (ao.out) (Kd.R_typed ap.out) (by decide)) aa.out (by decide)) ae.out (by decide)).1 k_ hs_.symm).1.2) (fun hs_ => ((Kd.R_types (Kd.R_types (Kd.R_types (Kd.R_apart' (ap.out) (Kd.R_typed ao.out) (by decide)) aa.out (by decide)) ab.out (by decide)) ae.out (by decide)).1 k_ hs_.symm).1.1.2)) (fun hn_ => (Kd.freshB (g := aq) (o := .cells #[.slice aK ah.length aJ, .slice aN ag.length aL] 25 (0, 0)) (bT aa.out) k_ hn_)), Or.elim hk_ (fun hs_ => Or.elim hs_ (fun hs_ => ((Kd.R_types (Kd.R_types (Kd.R_apart' (ao.out) (Kd.R_typed ap.out) (by decide)) aa.out (by decide)) ae.out (by decide)).1 k_ hs_.symm).1.1.1) (fun hs_ => ((Kd.R_types (Kd.R_types (Kd.R_types (Kd.R_apart' (ap.out) (Kd.R_typed ao.out) (by decide)) aa.out (by decide)) ab.out (by decide)) ae.out (by decide)).1 k_ hs_.symm).1.2)) (fun hn_ => (Kd.freshB (g := ar) (o := .cells #[.string aw, .string ax] 27 (0, 0)) (bT ab.out) k_ hn_)), Or.elim hk_ (fun hs_ => Or.elim hs_ (fun hs_ => ((Kd.R_types (Kd.R_types (Kd.R_apart' (ao.out) (Kd.R_typed ap.out) (by decide)) aa.out (by decide)) ae.out (by decide)).1 k_ hs_.symm).2) (fun hs_ => ((Kd.R_types (Kd.R_types (Kd.R_types (Kd.R_apart' (ap.out) (Kd.R_typed ao.out) (by decide)) aa.out (by decide)) ab.out (by decide)) ae.out (by decide)).1 k_ hs_.symm).2)) (fun hn_ => (Kd.freshB (g := ay) (o := .cells #[.slice a6 aB.length a7, .slice a8 aC.length a9] 25 (0, 0)) (bT ae.out) k_ hn_))⟩)) (below_size (eTx HB.out))); have aI := am (Kd.V_lower (Kd.V_mono (ok' := fun k_ => k_ ≠ aq ∧ k_ ≠ ar ∧ k_ ≠ ay) ho1 (fun k_ hk_ => ⟨Or.elim hk_ (fun hs_ => Or.elim hs_ (fun hs_ => ((Kd.R_types (Kd.R_types (Kd.R_apart' (ao.out) (Kd.R_typed ap.out) (by decide)) aa.out (by decide)) ae.out (by decide)).1 k_ hs_.symm).1.2) (fun hs_ => ((Kd.R_types (Kd.R_types (Kd.R_types (Kd.R_apart' (ap.out) (Kd.R_typed ao.out) (by decide)) aa.out (by decide)) ab.out (by decide)) ae.out (by decide)).1 k_ hs_.symm).1.1.2)) (fun hn_ => (Kd.freshB (g := aq) (o := .cells #[.slice aK ah.length aJ, .slice aN ag.length aL] 25 (0, 0)) (bT aa.out) k_ hn_)), Or.elim hk_ (fun hs_ => Or.elim hs_ (fun hs_ => ((Kd.R_types (Kd.R_types (Kd.R_apart' (ao.out) (Kd.R_typed ap.out) (by decide)) aa.out (by decide)) ae.out (by decide)).1 k_ hs_.symm).1.1.1) (fun hs_ => ((Kd.R_types (Kd.R_types (Kd.R_types (Kd.R_apart' (ap.out) (Kd.R_typed ao.out) (by decide)) aa.out (by decide)) ab.out (by decide)) ae.out (by decide)).1 k_ hs_.symm).1.2)) (fun hn_ => (Kd.freshB (g := ar) (o := .cells #[.string aw, .string ax] 27 (0, 0)) (bT ab.out) k_ hn_)), Or.elim hk_ (fun hs_ => Or.elim hs_ (fun hs_ => ((Kd.R_types (Kd.R_types (Kd.R_apart' (ao.out) (Kd.R_typed ap.out) (by decide)) aa.out (by decide)) ae.out (by decide)).1 k_ hs_.symm).2) (fun hs_ => ((Kd.R_types (Kd.R_types (Kd.R_types (Kd.R_apart' (ap.out) (Kd.R_typed ao.out) (by decide)) aa.out (by decide)) ab.out (by decide)) ae.out (by decide)).1 k_ hs_.symm).2)) (fun hn_ => (Kd.freshB (g := ay) (o := .cells #[.slice a6 aB.length a7, .slice a8 aC.length a9] 25 (0, 0)) (bT ae.out) k_ hn_))⟩)) (below_size (eTx HB.out))); replace ao := am (rB ao.out hb); replace ap := am (rB ap.out hb); replace aa := am (bB aa.out hb); replace ab := am (bB ab.out hb); replace ae := am (bB ae.out hb); replace HB := am (sTx HB.out hb)) | ((with_reducible refine gtD 11 ?_); refine xBx 11 25 #[.slice none 0 0, .slice none 0 0] ?_; intro af hg w38 hbox hb; replace ao := am (rB ao.out hb); replace ap := am (rB ap.out hb); replace az := am (Kd.V_below (Kd.V_elderB (vT az.out) af (Nat.le_of_eq hg.symm)) hb); replace aA := am (Kd.V_below (Kd.V_elderB (vT aA.out) af (Nat.le_of_eq hg.symm)) hb); replace aH := am (Kd.V_below (Kd.V_elderB (vT aH.out) af (Nat.le_of_eq hg.symm)) hb); replace aI := am (Kd.V_below (Kd.V_elderB (vT aI.out) af (Nat.le_of_eq hg.symm)) hb); have an := am (hbox); have gD := am ((gTx hg HB.out)); have gE := am ((gTx hg HB.out)); have aU := am ((nT aa.out hg)); have bo := am ((mT aa.out hg)); have aV := am ((nT ab.out hg)); have bq := am ((mT ab.out hg)); have aZ := am ((nT ae.out hg)); have bz := am ((mT ae.out hg)); replace aa := am (bB aa.out hb); replace ab := am (bB ab.out hb); replace ae := am (bB ae.out hb); replace HB := am (sTx HB.out hb); clear hb hbox hg; obtain ⟨aD, aE, fG⟩ := Kd.V_slice aH.out; subst fG; have gF := bo.out; have gG := aU.out; have gH := bq.out; have gI := aV.out; have gJ := bz.out; have gK := aZ.out; obtain ⟨fy, fz, fA, fC⟩ := bxB an; obtain ⟨aF, aG, fH⟩ := Kd.V_slice aI.out; subst fH))
 (try simp only [Act.put, List.setIfInBounds_toArray, List.set_cons_zero, List.set_cons_succ])
 go_cut [57] (fun v57 wc => ∃ (kq : Nat) (b0 : Bool), v57 = .bool b0 ∧ Aside0 (IST.j0 kq a2 aO aP aW aM b0 ah ag aw ax aB aC au av = some r) ∧ Aside0 (kq ≤ k) ∧ Aside0 (Kd.R k27 27 wc w.heap.size (fun k_ => k_ ≠ ar) (.slice aK ah.length aJ) ah) ∧ Aside0 (Kd.R Kd.string 9 wc w.heap.size (fun _ => True) (.slice aN ag.length aL) ag) ∧ Aside0 (Kd.V k27 27 wc w.heap.size (fun k_ => k_ ≠ aq ∧ k_ ≠ ar ∧ k_ ≠ ay ∧ k_ ≠ af) (.slice a6 aB.length a7) aB) ∧ Aside0 (Kd.V Kd.string 9 wc w.heap.size (fun k_ => k_ ≠ aq ∧ k_ ≠ ar ∧ k_ ≠ ay ∧ k_ ≠ af) (.slice a8 aC.length a9) aC) ∧ Aside0 (Kd.V k27 27 wc w.heap.size (fun k_ => k_ ≠ aq ∧ k_ ≠ ar ∧ k_ ≠ ay ∧ k_ ≠ af) (.slice aD au.length aE) au) ∧ Aside0 (Kd.V Kd.string 9 wc w.heap.size (fun k_ => k_ ≠ aq ∧ k_ ≠ ar ∧ k_ ≠ ay ∧ k_ ≠ af) (.slice aF av.length aG) av) ∧ Aside0 (wc.heap[aq]? = some (.cells #[(.slice aK ah.length aJ), (.slice aN ag.length aL)] 25 (0, 0))) ∧ Aside0 (wc.heap[ar]? = some (.cells #[.string aw, .string ax] 27 (0, 0))) ∧ Aside0 (wc.heap[ay]? = some (.cells #[(.slice a6 aB.length a7), (.slice a8 aC.length a9)] 25 (0, 0))) ∧ Aside0 (wc.heap[af]? = some (.cells #[(.slice aD au.length aE), (.slice aF av.length aG)] 25 (0, 0))) ∧ Aside0 (Below w.heap.size w wc))
 case first =>
  have H := HC9.out
  clear HC9
  replace H := bnd H; obtain ⟨bf, A45, H⟩ := H
  replace H := bnd H; obtain ⟨be, A46, H⟩ := H
  by_cases c47 : ((bf == 0) != be) = true
  ·as_aux_lemma =>
   rw [if_pos c47] at H
   have bP : ((bf == 0) != be) = true := c47
   (try (have di : decide ((bf == 0) = be) = false := by simpa using c47))
   (try (have dj : ((bf == 0) == be) = false := by simpa using c47))
   (try (have gM : ¬ ((bf == 0) = be) := by simpa using c47))
   clear c47
   (first | rw [bP] | (simp only [i64_w, i32_w]; rw [bP]) | skip)
   have H' := Aside0.mk H
   clear H
   try go_wp2
   obtain ⟨w48, hW_⟩ : ∃ W_, ((w38.setCell ⟨af, 0, none⟩ (.slice aD au.length aE)).setCell ⟨af, 1, none⟩ (.slice aF av.length aG)) = W_ := ⟨_, rfl⟩
   have n0_ : Aside0 (Kd.R k27 27 w48 w.heap.size (fun k_ => k_ ≠ ar) (.slice aK ah.length aJ) ah) := ⟨by rw [← hW_]; (with_reducible repeat (first | apply Kd.R_alloc | apply Kd.R_drewN | apply Kd.R_drew)); exact Kd.R_mono (Kd.R_far (p := ⟨af, 1, none⟩) (Kd.R_far (p := ⟨af, 0, none⟩) (Kd.R_types ao.out an.out (by decide)) (fun _ hk => hk.2) (.slice aD au.length aE)) (fun _ hk => hk.2) (.slice aF av.length aG)) (fun _ hk => hk.1)⟩
   have n1_ : Aside0 (Kd.R Kd.string 9 w48 w.heap.size (fun _ => True) (.slice aN ag.length aL) ag) := ⟨by rw [← hW_]; (with_reducible repeat (first | apply Kd.R_alloc | apply Kd.R_drewN | apply Kd.R_drew)); exact Kd.R_mono (Kd.R_far (p := ⟨af, 1, none⟩) (Kd.R_far (p := ⟨af, 0, none⟩) (Kd.R_types ap.out an.out (by decide)) (fun _ hk => hk.2) (.slice aD au.length aE)) (fun _ hk => hk.2) (.slice aF av.length aG)) (fun _ hk => trivial)⟩
   have n2_ : Aside0 (Kd.V k27 27 w48 w.heap.size (fun k_ => k_ ≠ aq ∧ k_ ≠ ar ∧ k_ ≠ ay ∧ k_ ≠ af) (.slice a6 aB.length a7) aB) := ⟨by rw [← hW_]; (with_reducible repeat (first | apply Kd.V_alloc | apply Kd.V_drewN | apply Kd.V_drew)); exact Kd.V_mono (Kd.V_far (p := ⟨af, 1, none⟩) (Kd.V_far (p := ⟨af, 0, none⟩) (Kd.V_mono az.out (fun k_ hk => (⟨hk, hk.2⟩ : _ ∧ k_ ≠ af))) (fun _ hk => hk.2) (.slice aD au.length aE)) (fun _ hk => hk.2) (.slice aF av.length aG)) (fun _ hk => ⟨hk.1.1.1, ⟨hk.1.1.2.1, ⟨hk.1.1.2.2, hk.1.2⟩⟩⟩)⟩
   have n3_ : Aside0 (Kd.V Kd.string 9 w48 w.heap.size (fun k_ => k_ ≠ aq ∧ k_ ≠ ar ∧ k_ ≠ ay ∧ k_ ≠ af) (.slice a8 aC.length a9) aC) := ⟨by rw [← hW_]; (with_reducible repeat (first | apply Kd.V_alloc | apply Kd.V_drewN | apply Kd.V_drew)); exact Kd.V_mono (Kd.V_far (p := ⟨af, 1, none⟩) (Kd.V_far (p := ⟨af, 0, none⟩) (Kd.V_mono aA.out (fun k_ hk => (⟨hk, hk.2⟩ : _ ∧ k_ ≠ af))) (fun _ hk => hk.2) (.slice aD au.length aE)) (fun _ hk => hk.2) (.slice aF av.length aG)) (fun _ hk => ⟨hk.1.1.1, ⟨hk.1.1.2.1, ⟨hk.1.1.2.2, hk.1.2⟩⟩⟩)⟩
   have n4_ : Aside0 (Kd.V k27 27 w48 w.heap.size (fun k_ => k_ ≠ aq ∧ k_ ≠ ar ∧ k_ ≠ ay ∧ k_ ≠ af) (.slice aD au.length aE) au) := ⟨by rw [← hW_]; (with_reducible repeat (first | apply Kd.V_alloc | apply Kd.V_drewN | apply Kd.V_drew)); exact Kd.V_mono (Kd.V_far (p := ⟨af, 1, none⟩) (Kd.V_far (p := ⟨af, 0, none⟩) (Kd.V_mono aH.out (fun k_ hk => (⟨hk, hk.2⟩ : _ ∧ k_ ≠ af))) (fun _ hk => hk.2) (.slice aD au.length aE)) (fun _ hk => hk.2) (.slice aF av.length aG)) (fun _ hk => ⟨hk.1.1.1, ⟨hk.1.1.2.1, ⟨hk.1.1.2.2, hk.1.2⟩⟩⟩)⟩
   have n5_ : Aside0 (Kd.V Kd.string 9 w48 w.heap.size (fun k_ => k_ ≠ aq ∧ k_ ≠ ar ∧ k_ ≠ ay ∧ k_ ≠ af) (.slice aF av.length aG) av) := ⟨by rw [← hW_]; (with_reducible repeat (first | apply Kd.V_alloc | apply Kd.V_drewN | apply Kd.V_drew)); exact Kd.V_mono (Kd.V_far (p := ⟨af, 1, none⟩) (Kd.V_far (p := ⟨af, 0, none⟩) (Kd.V_mono aI.out (fun k_ hk => (⟨hk, hk.2⟩ : _ ∧ k_ ≠ af))) (fun _ hk => hk.2) (.slice aD au.length aE)) (fun _ hk => hk.2) (.slice aF av.length aG)) (fun _ hk => ⟨hk.1.1.1, ⟨hk.1.1.2.1, ⟨hk.1.1.2.2, hk.1.2⟩⟩⟩)⟩
   have n6_ : Aside0 (w48.heap[aq]? = some (.cells #[.slice aK ah.length aJ, .slice aN ag.length aL] 25 (0, 0))) := ⟨by rw [← hW_]; exact kBk⟩
   have n7_ : Aside0 (w48.heap[ar]? = some (.cells #[.string aw, .string ax] 27 (0, 0))) := ⟨by rw [← hW_]; exact kBk⟩
   have n8_ : Aside0 (w48.heap[ay]? = some (.cells #[.slice a6 aB.length a7, .slice a8 aC.length a9] 25 (0, 0))) := ⟨by rw [← hW_]; exact kBk⟩
   have n9_ : Aside0 (w48.heap[af]? = some (.cells #[.slice aD au.length aE, .slice aF av.length aG] 25 (0, 0))) := ⟨by rw [← hW_]; exact kBk⟩
   have n10_ : Aside0 (Below w.heap.size w w48) := ⟨by rw [← hW_]; exact eTx HB.out⟩
   rw [hW_]
   clear hW_
   have ao := n0_
   have ap := n1_
   have az := n2_
   have aA := n3_
   have aH := n4_
   have aI := n5_
   have aa := n6_
   have ab := n7_
   have ae := n8_
   have an := n9_
   have HB := n10_
   clear n0_ n1_ n2_ n3_ n4_ n5_ n6_ n7_ n8_ n9_ n10_
   replace ao := am (Kd.R_drew ao.out)
   replace ap := am (Kd.R_drew ap.out)
   replace az := am (Kd.V_drew az.out)
   replace aA := am (Kd.V_drew aA.out)
   replace aH := am (Kd.V_drew aH.out)
   replace aI := am (Kd.V_drew aI.out)
   replace aa := am (blk_drew aa.out)
   replace ab := am (blk_drew ab.out)
   replace ae := am (blk_drew ae.out)
   replace an := am (blk_drew an.out)
   replace HB := am (below_drew1 HB.out)
   refine start_ (n := 21) (S := fun w' => w'.cell? ⟨aq, 0, none⟩ = some (.slice aK ah.length aJ) ∧ w'.cell? ⟨aq, 1, none⟩ = some (.slice aN ag.length aL)) (ds := []) (bA 21 0) rfK rfl rfK ⟨cT aa 0, cT aa 1⟩ (fun hHeld => ?_); refine with_tabW IST.tab5 IST.bits5 (fun HT_ HW_ => ?_)
   generalize w48.drew = w49 at ao ap az aA aH aI aa ab ae an HB hHeld ⊢
   refine tT 0 37 (bA 21 1) HT_.out HW_.out hHeld ?_ (hy := by rintro w' ⟨s0, s1⟩; go_simp; with_reducible rfl)
   refine tT 3 40 (bA 21 9) HT_.out HW_.out hHeld ?_ (hy := by rintro w' ⟨s0, s1⟩; go_simp; with_reducible rfl)
   refine oT 1 (bA 21 11) HT_.out fun K hK => ?_
   refine gS Tryz.func9 #[.agg #[.slice aK ah.length aJ, .slice aN ag.length aL]] ?_
   with_reducible refine (store_Check.calls k _ _ ah _ _ ag bf _ (cW (Kd.R_reads' ao.out).2.2) ((Kd.R_reads' ao.out).2.1) (cW (Kd.R_reads' ap.out).2.2) ((Kd.R_reads' ap.out).2.1) A45.out).mono ?_
   rintro e w50 ⟨rfl, hb⟩
   refine ⟨_, rfl, ?_⟩
   replace ao := am (rB ao.out hb)
   replace ap := am (rB ap.out hb)
   replace az := am (vB az.out hb)
   replace aA := am (vB aA.out hb)
   replace aH := am (vB aH.out hb)
   replace aI := am (vB aI.out hb)
   replace aa := am (bB aa.out hb)
   replace ab := am (bB ab.out hb)
   replace ae := am (bB ae.out hb)
   replace an := am (bB an.out hb)
   replace HB := am (sTx HB.out hb)
   refine hK.out _ _ ⟨cT aa 0, cT aa 1⟩ (fun hHeld => ?_)
   clear hK K
   refine mN 38 ?_
   refine pT 2 39 (bA 21 15) HT_.out ?_
   refine oT 4 (bA 21 31) HT_.out fun K hK => ?_
   refine gS Tryz.func10 #[.agg #[.slice aK ah.length aJ, .slice aN ag.length aL]] ?_
   with_reducible refine (graftwoodref12_May.calls k _ _ ah _ _ ag be _ (cW (Kd.R_reads' ao.out).2.2) ((Kd.R_reads' ao.out).2.1) (cW (Kd.R_reads' ap.out).2.2) ((Kd.R_reads' ap.out).2.1) A46.out).mono ?_
   rintro e w51 ⟨rfl, hb⟩
   refine ⟨_, rfl, ?_⟩
   replace ao := am (rB ao.out hb)
   replace ap := am (rB ap.out hb)
   replace az := am (vB az.out hb)
   replace aA := am (vB aA.out hb)
   replace aH := am (vB aH.out hb)
   replace aI := am (vB aI.out hb)
   replace aa := am (bB aa.out hb)
   replace ab := am (bB ab.out hb)
   replace ae := am (bB ae.out hb)
   replace an := am (bB an.out hb)
   replace HB := am (sTx HB.out hb)
   refine hK.out _ _ ⟨cT aa 0, cT aa 1⟩ (fun hHeld => ?_)
   clear hK K
   refine mN 41 ?_
   refine pT 5 42 (bA 21 63) HT_.out ?_
   refine pT 6 43 (bA 21 127) HT_.out ?_
   refine pU 7 44 (bA 21 255) HT_.out ?_
   refine pU 8 45 (bA 21 511) HT_.out ?_
   refine pU 9 46 (bA 21 1023) HT_.out ?_
   refine pU 10 47 (bA 21 2047) HT_.out ?_
   refine pU 11 48 (bA 21 4095) HT_.out ?_
   refine pU 12 49 (bA 21 8191) HT_.out ?_
   refine pU 13 50 (bA 21 16383) HT_.out ?_
   refine pT 14 51 (bA 21 32767) HT_.out ?_
   refine pT 15 52 (bA 21 65535) HT_.out ?_
   refine pU 16 53 (bA 21 131071) HT_.out ?_
   refine pU 17 54 (bA 21 262143) HT_.out ?_
   refine pU 18 55 (bA 21 524287) HT_.out ?_
   refine pU 19 56 (bA 21 1048575) HT_.out ?_
   refine pT 20 57 (bA 21 2097151) HT_.out ?_
   refine done_ (done_of HT_.out rfK) ?_
   try go_wp2
   go_meet
   case rel => exact ⟨_, (true), rfG, H', ⟨rfO⟩, ⟨rT ao.out⟩, ⟨rT ap.out⟩, ⟨vT az.out⟩, ⟨vT aA.out⟩, ⟨vT aH.out⟩, ⟨vT aI.out⟩, ⟨bT aa.out⟩, ⟨bT ab.out⟩, ⟨bT ae.out⟩, ⟨bT an.out⟩, ⟨eTx HB.out⟩⟩
  ·as_aux_lemma =>
   rw [if_neg c47] at H
   have bP : ((bf == 0) != be) = false := by simpa using c47
   (try (have di : decide ((bf == 0) = be) = true := by simpa using c47))
   (try (have dj : ((bf == 0) == be) = true := by simpa using c47))
   clear c47
   (first | rw [bP] | (simp only [i64_w, i32_w]; rw [bP]) | skip)
   replace H := bnd H; obtain ⟨bc, A52, H⟩ := H
   replace H := bnd H; obtain ⟨a_, A53, H⟩ := H
   by_cases c54 : (bc != a_) = true
   ·as_aux_lemma =>
    rw [if_pos c54] at H
    have b5 : (bc != a_) = true := c54
    (try (have b6 : decide (bc = a_) = false := by simpa using c54))
    (try (have b7 : (bc == a_) = false := by simpa using c54))
    (try (have gN : ¬ (bc = a_) := by simpa using c54))
    clear c54
    have H' := Aside0.mk H
    clear H
    try go_wp2
    obtain ⟨w55, hW_⟩ : ∃ W_, ((w38.setCell ⟨af, 0, none⟩ (.slice aD au.length aE)).setCell ⟨af, 1, none⟩ (.slice aF av.length aG)) = W_ := ⟨_, rfl⟩
    have n0_ : Aside0 (Kd.R k27 27 w55 w.heap.size (fun k_ => k_ ≠ ar) (.slice aK ah.length aJ) ah) := ⟨by rw [← hW_]; (with_reducible repeat (first | apply Kd.R_alloc | apply Kd.R_drewN | apply Kd.R_drew)); exact Kd.R_mono (Kd.R_far (p := ⟨af, 1, none⟩) (Kd.R_far (p := ⟨af, 0, none⟩) (Kd.R_types ao.out an.out (by decide)) (fun _ hk => hk.2) (.slice aD au.length aE)) (fun _ hk => hk.2) (.slice aF av.length aG)) (fun _ hk => hk.1)⟩
    have n1_ : Aside0 (Kd.R Kd.string 9 w55 w.heap.size (fun _ => True) (.slice aN ag.length aL) ag) := ⟨by rw [← hW_]; (with_reducible repeat (first | apply Kd.R_alloc | apply Kd.R_drewN | apply Kd.R_drew)); exact Kd.R_mono (Kd.R_far (p := ⟨af, 1, none⟩) (Kd.R_far (p := ⟨af, 0, none⟩) (Kd.R_types ap.out an.out (by decide)) (fun _ hk => hk.2) (.slice aD au.length aE)) (fun _ hk => hk.2) (.slice aF av.length aG)) (fun _ hk => trivial)⟩
    have n2_ : Aside0 (Kd.V k27 27 w55 w.heap.size (fun k_ => k_ ≠ aq ∧ k_ ≠ ar ∧ k_ ≠ ay ∧ k_ ≠ af) (.slice a6 aB.length a7) aB) := ⟨by rw [← hW_]; (with_reducible repeat (first | apply Kd.V_alloc | apply Kd.V_drewN | apply Kd.V_drew)); exact Kd.V_mono (Kd.V_far (p := ⟨af, 1, none⟩) (Kd.V_far (p := ⟨af, 0, none⟩) (Kd.V_mono az.out (fun k_ hk => (⟨hk, hk.2⟩ : _ ∧ k_ ≠ af))) (fun _ hk => hk.2) (.slice aD au.length aE)) (fun _ hk => hk.2) (.slice aF av.length aG)) (fun _ hk => ⟨hk.1.1.1, ⟨hk.1.1.2.1, ⟨hk.1.1.2.2, hk.1.2⟩⟩⟩)⟩
    have n3_ : Aside0 (Kd.V Kd.string 9 w55 w.heap.size (fun k_ => k_ ≠ aq ∧ k_ ≠ ar ∧ k_ ≠ ay ∧ k_ ≠ af) (.slice a8 aC.length a9) aC) := ⟨by rw [← hW_]; (with_reducible repeat (first | apply Kd.V_alloc | apply Kd.V_drewN | apply Kd.V_drew)); exact Kd.V_mono (Kd.V_far (p := ⟨af, 1, none⟩) (Kd.V_far (p := ⟨af, 0, none⟩) (Kd.V_mono aA.out (fun k_ hk => (⟨hk, hk.2⟩ : _ ∧ k_ ≠ af))) (fun _ hk => hk.2) (.slice aD au.length aE)) (fun _ hk => hk.2) (.slice aF av.length aG)) (fun _ hk => ⟨hk.1.1.1, ⟨hk.1.1.2.1, ⟨hk.1.1.2.2, hk.1.2⟩⟩⟩)⟩
    have n4_ : Aside0 (Kd.V k27 27 w55 w.heap.size (fun k_ => k_ ≠ aq ∧ k_ ≠ ar ∧ k_ ≠ ay ∧ k_ ≠ af) (.slice aD au.length aE) au) := ⟨by rw [← hW_]; (with_reducible repeat (first | apply Kd.V_alloc | apply Kd.V_drewN | apply Kd.V_drew)); exact Kd.V_mono (Kd.V_far (p := ⟨af, 1, none⟩) (Kd.V_far (p := ⟨af, 0, none⟩) (Kd.V_mono aH.out (fun k_ hk => (⟨hk, hk.2⟩ : _ ∧ k_ ≠ af))) (fun _ hk => hk.2) (.slice aD au.length aE)) (fun _ hk => hk.2) (.slice aF av.length aG)) (fun _ hk => ⟨hk.1.1.1, ⟨hk.1.1.2.1, ⟨hk.1.1.2.2, hk.1.2⟩⟩⟩)⟩
    have n5_ : Aside0 (Kd.V Kd.string 9 w55 w.heap.size (fun k_ => k_ ≠ aq ∧ k_ ≠ ar ∧ k_ ≠ ay ∧ k_ ≠ af) (.slice aF av.length aG) av) := ⟨by rw [← hW_]; (with_reducible repeat (first | apply Kd.V_alloc | apply Kd.V_drewN | apply Kd.V_drew)); exact Kd.V_mono (Kd.V_far (p := ⟨af, 1, none⟩) (Kd.V_far (p := ⟨af, 0, none⟩) (Kd.V_mono aI.out (fun k_ hk => (⟨hk, hk.2⟩ : _ ∧ k_ ≠ af))) (fun _ hk => hk.2) (.slice aD au.length aE)) (fun _ hk => hk.2) (.slice aF av.length aG)) (fun _ hk => ⟨hk.1.1.1, ⟨hk.1.1.2.1, ⟨hk.1.1.2.2, hk.1.2⟩⟩⟩)⟩
    have n6_ : Aside0 (w55.heap[aq]? = some (.cells #[.slice aK ah.length aJ, .slice aN ag.length aL] 25 (0, 0))) := ⟨by rw [← hW_]; exact kBk⟩
    have n7_ : Aside0 (w55.heap[ar]? = some (.cells #[.string aw, .string ax] 27 (0, 0))) := ⟨by rw [← hW_]; exact kBk⟩
    have n8_ : Aside0 (w55.heap[ay]? = some (.cells #[.slice a6 aB.length a7, .slice a8 aC.length a9] 25 (0, 0))) := ⟨by rw [← hW_]; exact kBk⟩
    have n9_ : Aside0 (w55.heap[af]? = some (.cells #[.slice aD au.length aE, .slice aF av.length aG] 25 (0, 0))) := ⟨by rw [← hW_]; exact kBk⟩
    have n10_ : Aside0 (Below w.heap.size w w55) := ⟨by rw [← hW_]; exact eTx HB.out⟩
    rw [hW_]
    clear hW_
    have ao := n0_
    have ap := n1_
    have az := n2_
    have aA := n3_
    have aH := n4_
    have aI := n5_
    have aa := n6_
    have ab := n7_
    have ae := n8_
    have an := n9_
    have HB := n10_
    clear n0_ n1_ n2_ n3_ n4_ n5_ n6_ n7_ n8_ n9_ n10_
    replace ao := am (Kd.R_drew ao.out)
    replace ap := am (Kd.R_drew ap.out)
    replace az := am (Kd.V_drew az.out)
    replace aA := am (Kd.V_drew aA.out)
    replace aH := am (Kd.V_drew aH.out)
    replace aI := am (Kd.V_drew aI.out)
    replace aa := am (blk_drew aa.out)
    replace ab := am (blk_drew ab.out)
    replace ae := am (blk_drew ae.out)
    replace an := am (blk_drew an.out)
    replace HB := am (below_drew1 HB.out)
    refine start_ (n := 21) (S := fun w' => w'.cell? ⟨aq, 0, none⟩ = some (.slice aK ah.length aJ) ∧ w'.cell? ⟨aq, 1, none⟩ = some (.slice aN ag.length aL) ∧ w'.cell? ⟨ay, 0, none⟩ = some (.slice a6 aB.length a7) ∧ w'.cell? ⟨ay, 1, none⟩ = some (.slice a8 aC.length a9)) (ds := []) (bA 21 0) rfK rfl rfK ⟨cT aa 0, cT aa 1, cT ae 0, cT ae 1⟩ (fun hHeld => ?_); refine with_tabW IST.tab5 IST.bits5 (fun HT_ HW_ => ?_)
    generalize w55.drew = w56 at ao ap az aA aH aI aa ab ae an HB hHeld ⊢
    refine tT 0 37 (bA 21 1) HT_.out HW_.out hHeld ?_ (hy := by rintro w' ⟨s0, s1, s2, s3⟩; go_simp; with_reducible rfl)
    refine tT 3 40 (bA 21 9) HT_.out HW_.out hHeld ?_ (hy := by rintro w' ⟨s0, s1, s2, s3⟩; go_simp; with_reducible rfl)
    refine oT 1 (bA 21 11) HT_.out fun K hK => ?_
    refine gS Tryz.func9 #[.agg #[.slice aK ah.length aJ, .slice aN ag.length aL]] ?_
    with_reducible refine (store_Check.calls k _ _ ah _ _ ag bf _ (cW (Kd.R_reads' ao.out).2.2) ((Kd.R_reads' ao.out).2.1) (cW (Kd.R_reads' ap.out).2.2) ((Kd.R_reads' ap.out).2.1) A45.out).mono ?_
    rintro e w57 ⟨rfl, hb⟩
    refine ⟨_, rfl, ?_⟩
    replace ao := am (rB ao.out hb)
    replace ap := am (rB ap.out hb)
    replace az := am (vB az.out hb)
    replace aA := am (vB aA.out hb)
    replace aH := am (vB aH.out hb)
    replace aI := am (vB aI.out hb)
    replace aa := am (bB aa.out hb)
    replace ab := am (bB ab.out hb)
    replace ae := am (bB ae.out hb)
    replace an := am (bB an.out hb)
    replace HB := am (sTx HB.out hb)
    refine hK.out _ _ ⟨cT aa 0, cT aa 1, cT ae 0, cT ae 1⟩ (fun hHeld => ?_)
    clear hK K
    refine mN 38 ?_
    refine pT 2 39 (bA 21 15) HT_.out ?_
    refine oT 4 (bA 21 31) HT_.out fun K hK => ?_
    refine gS Tryz.func10 #[.agg #[.slice aK ah.length aJ, .slice aN ag.length aL]] ?_
    with_reducible refine (graftwoodref12_May.calls k _ _ ah _ _ ag be _ (cW (Kd.R_reads' ao.out).2.2) ((Kd.R_reads' ao.out).2.1) (cW (Kd.R_reads' ap.out).2.2) ((Kd.R_reads' ap.out).2.1) A46.out).mono ?_
    rintro e w58 ⟨rfl, hb⟩
    refine ⟨_, rfl, ?_⟩
    replace ao := am (rB ao.out hb)
    replace ap := am (rB ap.out hb)
    replace az := am (vB az.out hb)
    replace aA := am (vB aA.out hb)
    replace aH := am (vB aH.out hb)
    replace aI := am (vB aI.out hb)
    replace aa := am (bB aa.out hb)
    replace ab := am (bB ab.out hb)
    replace ae := am (bB ae.out hb)
    replace an := am (bB an.out hb)
    replace HB := am (sTx HB.out hb)
    refine hK.out _ _ ⟨cT aa 0, cT aa 1, cT ae 0, cT ae 1⟩ (fun hHeld => ?_)
    clear hK K
    refine mN 41 ?_
    refine pT 5 42 (bA 21 63) HT_.out ?_
    refine pT 6 43 (bA 21 127) HT_.out ?_
    refine tT 7 44 (bA 21 255) HT_.out HW_.out hHeld ?_ (hy := by rintro w' ⟨s0, s1, s2, s3⟩; go_simp; with_reducible rfl)
    refine tT 8 45 (bA 21 511) HT_.out HW_.out hHeld ?_ (hy := by rintro w' ⟨s0, s1, s2, s3⟩; go_simp; with_reducible rfl)
    refine tT 10 47 (bA 21 1535) HT_.out HW_.out hHeld ?_ (hy := by rintro w' ⟨s0, s1, s2, s3⟩; go_simp; with_reducible rfl)
    refine tT 11 48 (bA 21 3583) HT_.out HW_.out hHeld ?_ (hy := by rintro w' ⟨s0, s1, s2, s3⟩; go_simp; with_reducible rfl)
    refine oT 9 (bA 21 4095) HT_.out fun K hK => ?_
    refine gS Tryz.func11 #[.agg #[.slice a6 aB.length a7, .slice a8 aC.length a9], .agg #[.slice aK ah.length aJ, .slice aN ag.length aL]] ?_
    with_reducible refine (store_Same.calls k _ _ aB _ _ aC _ _ ah _ _ ag bc _ (cW (Kd.V_reads' az.out).2.2) ((Kd.V_reads' az.out).2.1) (cW (Kd.V_reads' aA.out).2.2) ((Kd.V_reads' aA.out).2.1) (cW (Kd.R_reads' ao.out).2.2) ((Kd.R_reads' ao.out).2.1) (cW (Kd.R_reads' ap.out).2.2) ((Kd.R_reads' ap.out).2.1) A52.out).mono ?_
    rintro e w59 ⟨rfl, hb⟩
    refine ⟨_, rfl, ?_⟩
    replace ao := am (rB ao.out hb)
    replace ap := am (rB ap.out hb)
    replace az := am (vB az.out hb)
    replace aA := am (vB aA.out hb)
    replace aH := am (vB aH.out hb)
    replace aI := am (vB aI.out hb)
    replace aa := am (bB aa.out hb)
    replace ab := am (bB ab.out hb)
    replace ae := am (bB ae.out hb)
    replace an := am (bB an.out hb)
    replace HB := am (sTx HB.out hb)
    refine hK.out _ _ ⟨cT aa 0, cT aa 1, cT ae 0, cT ae 1⟩ (fun hHeld => ?_)
    clear hK K
    refine mN 46 ?_
    refine oT 12 (bA 21 8191) HT_.out fun K hK => ?_
    refine gS Tryz.func12 #[.agg #[.slice a6 aB.length a7, .slice a8 aC.length a9], .agg #[.slice aK ah.length aJ, .slice aN ag.length aL]] ?_
    with_reducible refine (graftwoodref12_Same.calls k _ _ aB _ _ aC _ _ ah _ _ ag a_ _ (cW (Kd.V_reads' az.out).2.2) ((Kd.V_reads' az.out).2.1) (cW (Kd.V_reads' aA.out).2.2) ((Kd.V_reads' aA.out).2.1) (cW (Kd.R_reads' ao.out).2.2) ((Kd.R_reads' ao.out).2.1) (cW (Kd.R_reads' ap.out).2.2) ((Kd.R_reads' ap.out).2.1) A53.out).mono ?_
    rintro e w60 ⟨rfl, hb⟩
    refine ⟨_, rfl, ?_⟩
    replace ao := am (rB ao.out hb)
    replace ap := am (rB ap.out hb)
    replace az := am (vB az.out hb)
    replace aA := am (vB aA.out hb)
    replace aH := am (vB aH.out hb)
    replace aI := am (vB aI.out hb)
    replace aa := am (bB aa.out hb)
    replace ab := am (bB ab.out hb)
    replace ae := am (bB ae.out hb)
    replace an := am (bB an.out hb)
    replace HB := am (sTx HB.out hb)
    refine hK.out _ _ ⟨cT aa 0, cT aa 1, cT ae 0, cT ae 1⟩ (fun hHeld => ?_)
    clear hK K
    refine mN 49 ?_
    refine pT 13 50 (bA 21 16383) HT_.out ?_
    refine pT 14 51 (bA 21 32767) HT_.out ?_
    refine pT 15 52 (bA 21 65535) HT_.out ?_
    refine pU 16 53 (bA 21 131071) HT_.out ?_
    refine pU 17 54 (bA 21 262143) HT_.out ?_
    refine pU 18 55 (bA 21 524287) HT_.out ?_
    refine pU 19 56 (bA 21 1048575) HT_.out ?_
    refine pT 20 57 (bA 21 2097151) HT_.out ?_
    refine done_ (done_of HT_.out rfK) ?_
    try go_wp2
    go_meet
    case rel => exact ⟨_, (true), rfG, H', ⟨rfO⟩, ⟨rT ao.out⟩, ⟨rT ap.out⟩, ⟨vT az.out⟩, ⟨vT aA.out⟩, ⟨vT aH.out⟩, ⟨vT aI.out⟩, ⟨bT aa.out⟩, ⟨bT ab.out⟩, ⟨bT ae.out⟩, ⟨bT an.out⟩, ⟨eTx HB.out⟩⟩
   ·as_aux_lemma =>
    rw [if_neg c54] at H
    have b5 : (bc != a_) = false := by simpa using c54
    (try (have b6 : decide (bc = a_) = true := by simpa using c54))
    (try (have b7 : (bc == a_) = true := by simpa using c54))
    clear c54
    replace H := bnd H; obtain ⟨bj, A61, H⟩ := H
    have H' := Aside0.mk H
    clear H
    try go_wp2
    obtain ⟨w62, hW_⟩ : ∃ W_, ((w38.setCell ⟨af, 0, none⟩ (.slice aD au.length aE)).setCell ⟨af, 1, none⟩ (.slice aF av.length aG)) = W_ := ⟨_, rfl⟩
    have n0_ : Aside0 (Kd.R k27 27 w62 w.heap.size (fun k_ => k_ ≠ ar) (.slice aK ah.length aJ) ah) := ⟨by rw [← hW_]; (with_reducible repeat (first | apply Kd.R_alloc | apply Kd.R_drewN | apply Kd.R_drew)); exact Kd.R_mono (Kd.R_far (p := ⟨af, 1, none⟩) (Kd.R_far (p := ⟨af, 0, none⟩) (Kd.R_types ao.out an.out (by decide)) (fun _ hk => hk.2) (.slice aD au.length aE)) (fun _ hk => hk.2) (.slice aF av.length aG)) (fun _ hk => hk.1)⟩
    have n1_ : Aside0 (Kd.R Kd.string 9 w62 w.heap.size (fun _ => True) (.slice aN ag.length aL) ag) := ⟨by rw [← hW_]; (with_reducible repeat (first | apply Kd.R_alloc | apply Kd.R_drewN | apply Kd.R_drew)); exact Kd.R_mono (Kd.R_far (p := ⟨af, 1, none⟩) (Kd.R_far (p := ⟨af, 0, none⟩) (Kd.R_types ap.out an.out (by decide)) (fun _ hk => hk.2) (.slice aD au.length aE)) (fun _ hk => hk.2) (.slice aF av.length aG)) (fun _ hk => trivial)⟩
    have n2_ : Aside0 (Kd.V k27 27 w62 w.heap.size (fun k_ => k_ ≠ aq ∧ k_ ≠ ar ∧ k_ ≠ ay ∧ k_ ≠ af) (.slice a6 aB.length a7) aB) := ⟨by rw [← hW_]; (with_reducible repeat (first | apply Kd.V_alloc | apply Kd.V_drewN | apply Kd.V_drew)); exact Kd.V_mono (Kd.V_far (p := ⟨af, 1, none⟩) (Kd.V_far (p := ⟨af, 0, none⟩) (Kd.V_mono az.out (fun k_ hk => (⟨hk, hk.2⟩ : _ ∧ k_ ≠ af))) (fun _ hk => hk.2) (.slice aD au.length aE)) (fun _ hk => hk.2) (.slice aF av.length aG)) (fun _ hk => ⟨hk.1.1.1, ⟨hk.1.1.2.1, ⟨hk.1.1.2.2, hk.1.2⟩⟩⟩)⟩
    have n3_ : Aside0 (Kd.V Kd.string 9 w62 w.heap.size (fun k_ => k_ ≠ aq ∧ k_ ≠ ar ∧ k_ ≠ ay ∧ k_ ≠ af) (.slice a8 aC.length a9) aC) := ⟨by rw [← hW_]; (with_reducible repeat (first | apply Kd.V_alloc | apply Kd.V_drewN | apply Kd.V_drew)); exact Kd.V_mono (Kd.V_far (p := ⟨af, 1, none⟩) (Kd.V_far (p := ⟨af, 0, none⟩) (Kd.V_mono aA.out (fun k_ hk => (⟨hk, hk.2⟩ : _ ∧ k_ ≠ af))) (fun _ hk => hk.2) (.slice aD au.length aE)) (fun _ hk => hk.2) (.slice aF av.length aG)) (fun _ hk => ⟨hk.1.1.1, ⟨hk.1.1.2.1, ⟨hk.1.1.2.2, hk.1.2⟩⟩⟩)⟩
    have n4_ : Aside0 (Kd.V k27 27 w62 w.heap.size (fun k_ => k_ ≠ aq ∧ k_ ≠ ar ∧ k_ ≠ ay ∧ k_ ≠ af) (.slice aD au.length aE) au) := ⟨by rw [← hW_]; (with_reducible repeat (first | apply Kd.V_alloc | apply Kd.V_drewN | apply Kd.V_drew)); exact Kd.V_mono (Kd.V_far (p := ⟨af, 1, none⟩) (Kd.V_far (p := ⟨af, 0, none⟩) (Kd.V_mono aH.out (fun k_ hk => (⟨hk, hk.2⟩ : _ ∧ k_ ≠ af))) (fun _ hk => hk.2) (.slice aD au.length aE)) (fun _ hk => hk.2) (.slice aF av.length aG)) (fun _ hk => ⟨hk.1.1.1, ⟨hk.1.1.2.1, ⟨hk.1.1.2.2, hk.1.2⟩⟩⟩)⟩
    have n5_ : Aside0 (Kd.V Kd.string 9 w62 w.heap.size (fun k_ => k_ ≠ aq ∧ k_ ≠ ar ∧ k_ ≠ ay ∧ k_ ≠ af) (.slice aF av.length aG) av) := ⟨by rw [← hW_]; (with_reducible repeat (first | apply Kd.V_alloc | apply Kd.V_drewN | apply Kd.V_drew)); exact Kd.V_mono (Kd.V_far (p := ⟨af, 1, none⟩) (Kd.V_far (p := ⟨af, 0, none⟩) (Kd.V_mono aI.out (fun k_ hk => (⟨hk, hk.2⟩ : _ ∧ k_ ≠ af))) (fun _ hk => hk.2) (.slice aD au.length aE)) (fun _ hk => hk.2) (.slice aF av.length aG)) (fun _ hk => ⟨hk.1.1.1, ⟨hk.1.1.2.1, ⟨hk.1.1.2.2, hk.1.2⟩⟩⟩)⟩
    have n6_ : Aside0 (w62.heap[aq]? = some (.cells #[.slice aK ah.length aJ, .slice aN ag.length aL] 25 (0, 0))) := ⟨by rw [← hW_]; exact kBk⟩
    have n7_ : Aside0 (w62.heap[ar]? = some (.cells #[.string aw, .string ax] 27 (0, 0))) := ⟨by rw [← hW_]; exact kBk⟩
    have n8_ : Aside0 (w62.heap[ay]? = some (.cells #[.slice a6 aB.length a7, .slice a8 aC.length a9] 25 (0, 0))) := ⟨by rw [← hW_]; exact kBk⟩
    have n9_ : Aside0 (w62.heap[af]? = some (.cells #[.slice aD au.length aE, .slice aF av.length aG] 25 (0, 0))) := ⟨by rw [← hW_]; exact kBk⟩
    have n10_ : Aside0 (Below w.heap.size w w62) := ⟨by rw [← hW_]; exact eTx HB.out⟩
    rw [hW_]
    clear hW_
    have ao := n0_
    have ap := n1_
    have az := n2_
    have aA := n3_
    have aH := n4_
    have aI := n5_
    have aa := n6_
    have ab := n7_
    have ae := n8_
    have an := n9_
    have HB := n10_
    clear n0_ n1_ n2_ n3_ n4_ n5_ n6_ n7_ n8_ n9_ n10_
    replace ao := am (Kd.R_drew ao.out)
    replace ap := am (Kd.R_drew ap.out)
    replace az := am (Kd.V_drew az.out)
    replace aA := am (Kd.V_drew aA.out)
    replace aH := am (Kd.V_drew aH.out)
    replace aI := am (Kd.V_drew aI.out)
    replace aa := am (blk_drew aa.out)
    replace ab := am (blk_drew ab.out)
    replace ae := am (blk_drew ae.out)
    replace an := am (blk_drew an.out)
    replace HB := am (below_drew1 HB.out)
    refine start_ (n := 21) (S := fun w' => w'.cell? ⟨aq, 0, none⟩ = some (.slice aK ah.length aJ) ∧ w'.cell? ⟨aq, 1, none⟩ = some (.slice aN ag.length aL) ∧ w'.cell? ⟨ay, 0, none⟩ = some (.slice a6 aB.length a7) ∧ w'.cell? ⟨ay, 1, none⟩ = some (.slice a8 aC.length a9)) (ds := []) (bA 21 0) rfK rfl rfK ⟨cT aa 0, cT aa 1, cT ae 0, cT ae 1⟩ (fun hHeld => ?_); refine with_tabW IST.tab5 IST.bits5 (fun HT_ HW_ => ?_)
    generalize w62.drew = w63 at ao ap az aA aH aI aa ab ae an HB hHeld ⊢
    refine tT 0 37 (bA 21 1) HT_.out HW_.out hHeld ?_ (hy := by rintro w' ⟨s0, s1, s2, s3⟩; go_simp; with_reducible rfl)
    refine tT 3 40 (bA 21 9) HT_.out HW_.out hHeld ?_ (hy := by rintro w' ⟨s0, s1, s2, s3⟩; go_simp; with_reducible rfl)
    refine oT 1 (bA 21 11) HT_.out fun K hK => ?_
    refine gS Tryz.func9 #[.agg #[.slice aK ah.length aJ, .slice aN ag.length aL]] ?_
    with_reducible refine (store_Check.calls k _ _ ah _ _ ag bf _ (cW (Kd.R_reads' ao.out).2.2) ((Kd.R_reads' ao.out).2.1) (cW (Kd.R_reads' ap.out).2.2) ((Kd.R_reads' ap.out).2.1) A45.out).mono ?_
    rintro e w64 ⟨rfl, hb⟩
    refine ⟨_, rfl, ?_⟩
    replace ao := am (rB ao.out hb)
    replace ap := am (rB ap.out hb)
    replace az := am (vB az.out hb)
    replace aA := am (vB aA.out hb)
    replace aH := am (vB aH.out hb)
    replace aI := am (vB aI.out hb)
    replace aa := am (bB aa.out hb)
    replace ab := am (bB ab.out hb)
    replace ae := am (bB ae.out hb)
    replace an := am (bB an.out hb)
    replace HB := am (sTx HB.out hb)
    refine hK.out _ _ ⟨cT aa 0, cT aa 1, cT ae 0, cT ae 1⟩ (fun hHeld => ?_)
    clear hK K
    refine mN 38 ?_
    refine pT 2 39 (bA 21 15) HT_.out ?_
    refine oT 4 (bA 21 31) HT_.out fun K hK => ?_
    refine gS Tryz.func10 #[.agg #[.slice aK ah.length aJ, .slice aN ag.length aL]] ?_
    with_reducible refine (graftwoodref12_May.calls k _ _ ah _ _ ag be _ (cW (Kd.R_reads' ao.out).2.2) ((Kd.R_reads' ao.out).2.1) (cW (Kd.R_reads' ap.out).2.2) ((Kd.R_reads' ap.out).2.1) A46.out).mono ?_
    rintro e w65 ⟨rfl, hb⟩
    refine ⟨_, rfl, ?_⟩
    replace ao := am (rB ao.out hb)
    replace ap := am (rB ap.out hb)
    replace az := am (vB az.out hb)
    replace aA := am (vB aA.out hb)
    replace aH := am (vB aH.out hb)
    replace aI := am (vB aI.out hb)
    replace aa := am (bB aa.out hb)
    replace ab := am (bB ab.out hb)
    replace ae := am (bB ae.out hb)
    replace an := am (bB an.out hb)
    replace HB := am (sTx HB.out hb)
    refine hK.out _ _ ⟨cT aa 0, cT aa 1, cT ae 0, cT ae 1⟩ (fun hHeld => ?_)
    clear hK K
    refine mN 41 ?_
    refine pT 5 42 (bA 21 63) HT_.out ?_
    refine pT 6 43 (bA 21 127) HT_.out ?_
    refine tT 7 44 (bA 21 255) HT_.out HW_.out hHeld ?_ (hy := by rintro w' ⟨s0, s1, s2, s3⟩; go_simp; with_reducible rfl)
    refine tT 8 45 (bA 21 511) HT_.out HW_.out hHeld ?_ (hy := by rintro w' ⟨s0, s1, s2, s3⟩; go_simp; with_reducible rfl)
    refine tT 10 47 (bA 21 1535) HT_.out HW_.out hHeld ?_ (hy := by rintro w' ⟨s0, s1, s2, s3⟩; go_simp; with_reducible rfl)
    refine tT 11 48 (bA 21 3583) HT_.out HW_.out hHeld ?_ (hy := by rintro w' ⟨s0, s1, s2, s3⟩; go_simp; with_reducible rfl)
    refine oT 9 (bA 21 4095) HT_.out fun K hK => ?_
    refine gS Tryz.func11 #[.agg #[.slice a6 aB.length a7, .slice a8 aC.length a9], .agg #[.slice aK ah.length aJ, .slice aN ag.length aL]] ?_
    with_reducible refine (store_Same.calls k _ _ aB _ _ aC _ _ ah _ _ ag bc _ (cW (Kd.V_reads' az.out).2.2) ((Kd.V_reads' az.out).2.1) (cW (Kd.V_reads' aA.out).2.2) ((Kd.V_reads' aA.out).2.1) (cW (Kd.R_reads' ao.out).2.2) ((Kd.R_reads' ao.out).2.1) (cW (Kd.R_reads' ap.out).2.2) ((Kd.R_reads' ap.out).2.1) A52.out).mono ?_
    rintro e w66 ⟨rfl, hb⟩
    refine ⟨_, rfl, ?_⟩
    replace ao := am (rB ao.out hb)
    replace ap := am (rB ap.out hb)
    replace az := am (vB az.out hb)
    replace aA := am (vB aA.out hb)
    replace aH := am (vB aH.out hb)
    replace aI := am (vB aI.out hb)
    replace aa := am (bB aa.out hb)
    replace ab := am (bB ab.out hb)
    replace ae := am (bB ae.out hb)
    replace an := am (bB an.out hb)
    replace HB := am (sTx HB.out hb)
    refine hK.out _ _ ⟨cT aa 0, cT aa 1, cT ae 0, cT ae 1⟩ (fun hHeld => ?_)
    clear hK K
    refine mN 46 ?_
    refine oT 12 (bA 21 8191) HT_.out fun K hK => ?_
    refine gS Tryz.func12 #[.agg #[.slice a6 aB.length a7, .slice a8 aC.length a9], .agg #[.slice aK ah.length aJ, .slice aN ag.length aL]] ?_
    with_reducible refine (graftwoodref12_Same.calls k _ _ aB _ _ aC _ _ ah _ _ ag a_ _ (cW (Kd.V_reads' az.out).2.2) ((Kd.V_reads' az.out).2.1) (cW (Kd.V_reads' aA.out).2.2) ((Kd.V_reads' aA.out).2.1) (cW (Kd.R_reads' ao.out).2.2) ((Kd.R_reads' ao.out).2.1) (cW (Kd.R_reads' ap.out).2.2) ((Kd.R_reads' ap.out).2.1) A53.out).mono ?_
    rintro e w67 ⟨rfl, hb⟩
    refine ⟨_, rfl, ?_⟩
    replace ao := am (rB ao.out hb)
    replace ap := am (rB ap.out hb)
    replace az := am (vB az.out hb)
    replace aA := am (vB aA.out hb)
    replace aH := am (vB aH.out hb)
    replace aI := am (vB aI.out hb)
    replace aa := am (bB aa.out hb)
    replace ab := am (bB ab.out hb)
    replace ae := am (bB ae.out hb)
    replace an := am (bB an.out hb)
    replace HB := am (sTx HB.out hb)
    refine hK.out _ _ ⟨cT aa 0, cT aa 1, cT ae 0, cT ae 1⟩ (fun hHeld => ?_)
    clear hK K
    refine mN 49 ?_
    refine pT 13 50 (bA 21 16383) HT_.out ?_
    refine pT 14 51 (bA 21 32767) HT_.out ?_
    refine pT 15 52 (bA 21 65535) HT_.out ?_
    refine tT 16 53 (bA 21 131071) HT_.out HW_.out hHeld ?_ (hy := by rintro w' ⟨s0, s1, s2, s3⟩; go_simp; with_reducible rfl)
    refine tT 17 54 (bA 21 262143) HT_.out HW_.out hHeld ?_ (hy := by rintro w' ⟨s0, s1, s2, s3⟩; go_simp; with_reducible rfl)
    refine oT 18 (bA 21 524287) HT_.out fun K hK => ?_
    refine gS Tryz.func11 #[.agg #[.slice aK ah.length aJ, .slice aN ag.length aL], .agg #[.slice aK ah.length aJ, .slice aN ag.length aL]] ?_
    with_reducible refine (store_Same.calls k _ _ ah _ _ ag _ _ ah _ _ ag bj _ (cW (Kd.R_reads' ao.out).2.2) ((Kd.R_reads' ao.out).2.1) (cW (Kd.R_reads' ap.out).2.2) ((Kd.R_reads' ap.out).2.1) (cW (Kd.R_reads' ao.out).2.2) ((Kd.R_reads' ao.out).2.1) (cW (Kd.R_reads' ap.out).2.2) ((Kd.R_reads' ap.out).2.1) A61.out).mono ?_
    rintro e w68 ⟨rfl, hb⟩
    refine ⟨_, rfl, ?_⟩
    replace ao := am (rB ao.out hb)
    replace ap := am (rB ap.out hb)
    replace az := am (vB az.out hb)
    replace aA := am (vB aA.out hb)
    replace aH := am (vB aH.out hb)
    replace aI := am (vB aI.out hb)
    replace aa := am (bB aa.out hb)
    replace ab := am (bB ab.out hb)
    replace ae := am (bB ae.out hb)
    replace an := am (bB an.out hb)
    replace HB := am (sTx HB.out hb)
    refine hK.out _ _ ⟨cT aa 0, cT aa 1, cT ae 0, cT ae 1⟩ (fun hHeld => ?_)
    clear hK K
    refine mN 55 ?_
    refine pT 19 56 (bA 21 1048575) HT_.out ?_
    refine pT 20 57 (bA 21 2097151) HT_.out ?_
    refine done_ (done_of HT_.out rfK) ?_
    try go_wp2
    go_meet
    case rel => exact ⟨_, (!bj), rfG, H', ⟨rfO⟩, ⟨rT ao.out⟩, ⟨rT ap.out⟩, ⟨vT az.out⟩, ⟨vT aA.out⟩, ⟨vT aH.out⟩, ⟨vT aI.out⟩, ⟨bT aa.out⟩, ⟨bT ab.out⟩, ⟨bT ae.out⟩, ⟨bT an.out⟩, ⟨eTx HB.out⟩⟩
 case rest =>
  clear HC9
  obtain ⟨kq, b0, rfl, HA, HJ8, ad, ac, ai, aj, ak, al, aa, ab, ae, an, HB⟩ := hcut
  cases kq with
  | zero => exact absurd HA.out (by simp [IST.j0])
  | succ kj8 =>
   have H := HA.out
   clear HA
   simp only [IST.j0] at H
   replace H := ifB H; rcases H with ⟨rfl, H⟩ | ⟨rfl, H⟩
   ·exact absurd ((smI H).trans hR_) (by decide)
   ·have cP := Aside0.mk H
    clear H
    go_upto_region 7 with (fail)
    go_cut [65] (fun v65 wc => ∃ (kq : Nat) (bK : Bool), v65 = .bool bK ∧ Aside0 (IST.j1 kq a2 aO aP aW aM bK ah ag aw ax aB aC au av = some r) ∧ Aside0 (kq ≤ kj8) ∧ Aside0 (Kd.R k27 27 wc w.heap.size (fun k_ => k_ ≠ ar) (.slice aK ah.length aJ) ah) ∧ Aside0 (Kd.R Kd.string 9 wc w.heap.size (fun _ => True) (.slice aN ag.length aL) ag) ∧ Aside0 (Kd.V k27 27 wc w.heap.size (fun k_ => k_ ≠ aq ∧ k_ ≠ ar ∧ k_ ≠ ay ∧ k_ ≠ af) (.slice a6 aB.length a7) aB) ∧ Aside0 (Kd.V Kd.string 9 wc w.heap.size (fun k_ => k_ ≠ aq ∧ k_ ≠ ar ∧ k_ ≠ ay ∧ k_ ≠ af) (.slice a8 aC.length a9) aC) ∧ Aside0 (Kd.V k27 27 wc w.heap.size (fun k_ => k_ ≠ aq ∧ k_ ≠ ar ∧ k_ ≠ ay ∧ k_ ≠ af) (.slice aD au.length aE) au) ∧ Aside0 (Kd.V Kd.string 9 wc w.heap.size (fun k_ => k_ ≠ aq ∧ k_ ≠ ar ∧ k_ ≠ ay ∧ k_ ≠ af) (.slice aF av.length aG) av) ∧ Aside0 (wc.heap[aq]? = some (.cells #[(.slice aK ah.length aJ), (.slice aN ag.length aL)] 25 (0, 0))) ∧ Aside0 (wc.heap[ar]? = some (.cells #[.string aw, .string ax] 27 (0, 0))) ∧ Aside0 (wc.heap[ay]? = some (.cells #[(.slice a6 aB.length a7), (.slice a8 aC.length a9)] 25 (0, 0))) ∧ Aside0 (wc.heap[af]? = some (.cells #[(.slice aD au.length aE), (.slice aF av.length aG)] 25 (0, 0))) ∧ Aside0 (Below w.heap.size w wc))
    case first =>
     have H := cP.out
     clear cP
     replace H := bnd H; obtain ⟨b2, A71, H⟩ := H
     replace H := ifB H; rcases H with ⟨rfl, H⟩ | ⟨rfl, H⟩
     ·replace H := bnd H; obtain ⟨bD, A73, H⟩ := H
      have H' := Aside0.mk H
      clear H
      have gO := aQ.out
      have gP := aR.out
      have gQ := bb.out
      have gR := bm.out
      have gU := aU.out
      have gV := bo.out
      obtain ⟨b_, ca, cb, cc⟩ := bxB aa
      go_wp2_with (first | ((with_reducible refine gtC 10 ?_); refine xCb 59 Tryz.func10 (graftwoodref12_May.calls kj8 _ _ ah _ _ ag true _ (cW (Kd.R_reads' ad.out).2.2) ((Kd.R_reads' ad.out).2.1) (cW (Kd.R_reads' ac.out).2.2) ((Kd.R_reads' ac.out).2.1) A71.out) fun w78 hb => ?_; replace ad := am (rB ad.out hb); replace ac := am (rB ac.out hb); replace ai := am (vB ai.out hb); replace aj := am (vB aj.out hb); replace ak := am (vB ak.out hb); replace al := am (vB al.out hb); replace aa := am (bB aa.out hb); replace ab := am (bB ab.out hb); replace ae := am (bB ae.out hb); replace an := am (bB an.out hb); replace HB := am (sTx HB.out hb); have gW := bg.out; have gX := bp.out; have gY := aV.out; have gZ := bq.out; obtain ⟨cd, ce, cf, cg⟩ := bxB ab) | (go_at_call 13; (with_reducible refine (graftwoodref05_May.calls kj8 aw ax bD _ A73.out).mono ?_); rintro e w82 ⟨rfl, hb⟩; replace ad := am (rB ad.out hb); replace ac := am (rB ac.out hb); replace ai := am (vB ai.out hb); replace aj := am (vB aj.out hb); replace ak := am (vB ak.out hb); replace al := am (vB al.out hb); replace aa := am (bB aa.out hb); replace ab := am (bB ab.out hb); replace ae := am (bB ae.out hb); replace an := am (bB an.out hb); replace HB := am (sTx HB.out hb)))
      go_meet
      case rel => exact ⟨_, (!bD), rfG, H', ⟨by have := HJ8.out; first | omega | exact Nat.le_refl _⟩, ⟨rT ad.out⟩, ⟨rT ac.out⟩, ⟨vT ai.out⟩, ⟨vT aj.out⟩, ⟨vT ak.out⟩, ⟨vT al.out⟩, ⟨bT aa.out⟩, ⟨bT ab.out⟩, ⟨bT ae.out⟩, ⟨bT an.out⟩, ⟨eTx HB.out⟩⟩
     ·have H' := Aside0.mk H
      clear H
      have g0 := aQ.out
      have g1 := aR.out
      have g2 := bb.out
      have g3 := bm.out
      have g4 := aU.out
      have g5 := bo.out
      obtain ⟨ch, ci, cj, ck⟩ := bxB aa
      go_wp2_with (first | ((with_reducible refine gtC 10 ?_); refine xCb 59 Tryz.func10 (graftwoodref12_May.calls kj8 _ _ ah _ _ ag false _ (cW (Kd.R_reads' ad.out).2.2) ((Kd.R_reads' ad.out).2.1) (cW (Kd.R_reads' ac.out).2.2) ((Kd.R_reads' ac.out).2.1) A71.out) fun w87 hb => ?_; replace ad := am (rB ad.out hb); replace ac := am (rB ac.out hb); replace ai := am (vB ai.out hb); replace aj := am (vB aj.out hb); replace ak := am (vB ak.out hb); replace al := am (vB al.out hb); replace aa := am (bB aa.out hb); replace ab := am (bB ab.out hb); replace ae := am (bB ae.out hb); replace an := am (bB an.out hb); replace HB := am (sTx HB.out hb)))
      go_meet
      case rel => exact ⟨_, (true), rfG, H', ⟨by have := HJ8.out; first | omega | exact Nat.le_refl _⟩, ⟨rT ad.out⟩, ⟨rT ac.out⟩, ⟨vT ai.out⟩, ⟨vT aj.out⟩, ⟨vT ak.out⟩, ⟨vT al.out⟩, ⟨bT aa.out⟩, ⟨bT ab.out⟩, ⟨bT ae.out⟩, ⟨bT an.out⟩, ⟨eTx HB.out⟩⟩
    case rest =>
     clear cP
     obtain ⟨kq, bK, rfl, HA, dq, ad, ac, ai, aj, ak, al, aa, ab, ae, an, HB⟩ := hcut
     cases kq with
     | zero => exact absurd HA.out (by simp [IST.j1])
     | succ kj69 =>
      have H := HA.out
      clear HA
      simp only [IST.j1] at H
      replace H := ifB H; rcases H with ⟨rfl, H⟩ | ⟨rfl, H⟩
      ·replace H := ifT H hR_; obtain ⟨c89, H⟩ := H
       have cv := beq_iff_eq.mpr c89
       have cw := bne_eq_false_iff_eq.mpr c89
       clear c89
       replace H := ifT H hR_; obtain ⟨c90, H⟩ := H
       have cx := beq_iff_eq.mpr c90
       have cy := bne_eq_false_iff_eq.mpr c90
       clear c90
       replace H := bnd H; obtain ⟨b3, A91, H⟩ := H
       replace H := ifT H hR_; obtain ⟨rfl, H⟩ := H
       replace H := ifT H hR_; obtain ⟨c93, H⟩ := H
       have cz := beq_iff_eq.mpr c93
       have cA := bne_eq_false_iff_eq.mpr c93
       clear c93
       replace H := bnd H; obtain ⟨bG, A94, H⟩ := H
       replace H := ifT H hR_; obtain ⟨rfl, H⟩ := H
       replace H := ifT H hR_; obtain ⟨c96, H⟩ := H
       have du := beq_iff_eq.mpr c96
       have dv := bne_eq_false_iff_eq.mpr c96
       clear c96
       replace H := bnd H; obtain ⟨bv, A97, H⟩ := H
       obtain rfl := smI H
       have g6 := bm.out
       have g7 := bb.out
       have g8 := bp.out
       have g9 := bg.out
       have fI := aZ.out
       have fJ := bz.out
       obtain ⟨dx, dy, dz, dA⟩ := bxB ae
       have fK := aQ.out
       have fL := aR.out
       have fM := aU.out
       have fN := bo.out
       obtain ⟨dB, dC, dD, dE⟩ := bxB aa
       go_wp2_with (first | (go_at_call 12; (with_reducible refine (graftwoodref12_Same.calls kj69 _ _ aB _ _ aC _ _ ah _ _ ag true _ (cW (Kd.V_reads' ai.out).2.2) ((Kd.V_reads' ai.out).2.1) (cW (Kd.V_reads' aj.out).2.2) ((Kd.V_reads' aj.out).2.1) (cW (Kd.R_reads' ad.out).2.2) ((Kd.R_reads' ad.out).2.1) (cW (Kd.R_reads' ac.out).2.2) ((Kd.R_reads' ac.out).2.1) A91.out).mono ?_); rintro e cl ⟨rfl, hb⟩; replace ad := am (rB ad.out hb); replace ac := am (rB ac.out hb); replace ai := am (vB ai.out hb); replace aj := am (vB aj.out hb); replace ak := am (vB ak.out hb); replace al := am (vB al.out hb); replace aa := am (bB aa.out hb); replace ab := am (bB ab.out hb); replace ae := am (bB ae.out hb); replace an := am (bB an.out hb); replace HB := am (sTx HB.out hb); have fO := bq.out; have fP := aV.out; obtain ⟨dF, dG, dH, dI⟩ := bxB an; obtain ⟨dJ, dK, dL, dM⟩ := bxB aa) | (go_at_call 12; (with_reducible refine (graftwoodref12_Same.calls kj69 _ _ au _ _ av _ _ ah _ _ ag true _ (cW (Kd.V_reads' ak.out).2.2) ((Kd.V_reads' ak.out).2.1) (cW (Kd.V_reads' al.out).2.2) ((Kd.V_reads' al.out).2.1) (cW (Kd.R_reads' ad.out).2.2) ((Kd.R_reads' ad.out).2.1) (cW (Kd.R_reads' ac.out).2.2) ((Kd.R_reads' ac.out).2.1) A94.out).mono ?_); rintro e ht ⟨rfl, hb⟩; replace ad := am (rB ad.out hb); replace ac := am (rB ac.out hb); replace ai := am (vB ai.out hb); replace aj := am (vB aj.out hb); replace ak := am (vB ak.out hb); replace al := am (vB al.out hb); replace aa := am (bB aa.out hb); replace ab := am (bB ab.out hb); replace ae := am (bB ae.out hb); replace an := am (bB an.out hb); replace HB := am (sTx HB.out hb)) | (go_at_call 14; (with_reducible refine (graftwoodlaw12_awake.calls kj69  bv _ A97.out (by first | exact hR_ | assumption)).mono ?_); rintro e hu ⟨rfl, hb⟩; replace ad := am (rB ad.out hb); replace ac := am (rB ac.out hb); replace ai := am (vB ai.out hb); replace aj := am (vB aj.out hb); replace ak := am (vB ak.out hb); replace al := am (vB al.out hb); replace aa := am (bB aa.out hb); replace ab := am (bB ab.out hb); replace ae := am (bB ae.out hb); replace an := am (bB an.out hb); replace HB := am (sTx HB.out hb)))
       go_ret
       exact ⟨rfF, eTx HB.out⟩
      ·have b8 := Aside0.mk H
       clear H
       go_upto_region 9 with (fail)
       go_cut [103] (fun fQ wc => ∃ (kq : Nat) (bx : Bool), fQ = .bool bx ∧ Aside0 (IST.j2 kq aO aP aM bx ah ag aw ax au av = some r) ∧ Aside0 (kq ≤ kj69) ∧ Aside0 (Kd.R k27 27 wc w.heap.size (fun k_ => k_ ≠ ar) (.slice aK ah.length aJ) ah) ∧ Aside0 (Kd.R Kd.string 9 wc w.heap.size (fun _ => True) (.slice aN ag.length aL) ag) ∧ Aside0 (Kd.V k27 27 wc w.heap.size (fun k_ => k_ ≠ aq ∧ k_ ≠ ar ∧ k_ ≠ ay ∧ k_ ≠ af) (.slice a6 aB.length a7) aB) ∧ Aside0 (Kd.V Kd.string 9 wc w.heap.size (fun k_ => k_ ≠ aq ∧ k_ ≠ ar ∧ k_ ≠ ay ∧ k_ ≠ af) (.slice a8 aC.length a9) aC) ∧ Aside0 (Kd.V k27 27 wc w.heap.size (fun k_ => k_ ≠ aq ∧ k_ ≠ ar ∧ k_ ≠ ay ∧ k_ ≠ af) (.slice aD au.length aE) au) ∧ Aside0 (Kd.V Kd.string 9 wc w.heap.size (fun k_ => k_ ≠ aq ∧ k_ ≠ ar ∧ k_ ≠ ay ∧ k_ ≠ af) (.slice aF av.length aG) av) ∧ Aside0 (wc.heap[aq]? = some (.cells #[(.slice aK ah.length aJ), (.slice aN ag.length aL)] 25 (0, 0))) ∧ Aside0 (wc.heap[ar]? = some (.cells #[.string aw, .string ax] 27 (0, 0))) ∧ Aside0 (wc.heap[ay]? = some (.cells #[(.slice a6 aB.length a7), (.slice a8 aC.length a9)] 25 (0, 0))) ∧ Aside0 (wc.heap[af]? = some (.cells #[(.slice aD au.length aE), (.slice aF av.length aG)] 25 (0, 0))) ∧ Aside0 (Below w.heap.size w wc))
       case first =>
        have H := b8.out
        clear b8
        replace H := bnd H; obtain ⟨⟨bQ, bR⟩, dN, H⟩ := H
        (try dsimp only at H)
        replace H := bnd H; obtain ⟨bL, dP, H⟩ := H
        replace H := ifB H; rcases H with ⟨rfl, H⟩ | ⟨rfl, H⟩
        ·have H' := Aside0.mk H
         clear H
         try go_wp2
         replace ad := am (Kd.R_drew ad.out)
         replace ac := am (Kd.R_drew ac.out)
         replace ai := am (Kd.V_drew ai.out)
         replace aj := am (Kd.V_drew aj.out)
         replace ak := am (Kd.V_drew ak.out)
         replace al := am (Kd.V_drew al.out)
         replace aa := am (blk_drew aa.out)
         replace ab := am (blk_drew ab.out)
         replace ae := am (blk_drew ae.out)
         replace an := am (blk_drew an.out)
         replace HB := am (below_drew1 HB.out)
         refine start_ (n := 11) (S := fun w' => w'.cell? ⟨ay, 0, none⟩ = some (.slice a6 aB.length a7) ∧ w'.cell? ⟨ay, 1, none⟩ = some (.slice a8 aC.length a9) ∧ w'.cell? ⟨aq, 0, none⟩ = some (.slice aK ah.length aJ) ∧ w'.cell? ⟨aq, 1, none⟩ = some (.slice aN ag.length aL) ∧ w'.cell? ⟨ar, 0, none⟩ = some (.string aw) ∧ w'.cell? ⟨ar, 1, none⟩ = some (.string ax)) (ds := []) (bA 11 0) rfK rfl rfK ⟨cT ae 0, cT ae 1, cT aa 0, cT aa 1, cT ab 0, cT ab 1⟩ (fun hHeld => ?_); refine with_tabW IST.tab9 IST.bits9 (fun HT_ HW_ => ?_)
         generalize wc.drew = hv at ad ac ai aj ak al aa ab ae an HB hHeld ⊢
         refine pT 3 96 (bA 11 8) HT_.out ?_
         refine tT 0 93 (bA 11 9) HT_.out HW_.out hHeld ?_ (hy := by rintro w' ⟨s0, s1, s2, s3, s4, s5⟩; go_simp; with_reducible rfl)
         refine tT 1 94 (bA 11 11) HT_.out HW_.out hHeld ?_ (hy := by rintro w' ⟨s0, s1, s2, s3, s4, s5⟩; go_simp; with_reducible rfl)
         refine tT 2 95 (bA 11 15) HT_.out HW_.out hHeld ?_ (hy := by rintro w' ⟨s0, s1, s2, s3, s4, s5⟩; go_simp; with_reducible rfl)
         refine oT 4 (bA 11 31) HT_.out fun K hK => ?_
         refine gS Tryz.func15 #[.agg #[.slice aK ah.length aJ, .slice aN ag.length aL], .agg #[.string aw, .string ax], .string a2] ?_
         with_reducible refine (graftwoodref12_Put.calls kj69 _ _ ah _ _ ag aw ax a2 bQ bR _ (cW (Kd.R_reads' ad.out).2.2) ((Kd.R_reads' ad.out).2.1) (cW (Kd.R_reads' ac.out).2.2) ((Kd.R_reads' ac.out).2.1) dN.out).mono ?_
         rintro e hx ⟨fR, fS, rfl, ho0, ho1, hb⟩
         refine ⟨_, rfl, ?_⟩
         replace ai := am (Kd.V_mono (Kd.V_told (Kd.V_told (Kd.V_old (vT ai.out) hb) (Kd.R_base ho0)) (Kd.R_base ho1)) (fun _ h_ => h_.1))
         replace aj := am (Kd.V_mono (Kd.V_told (Kd.V_told (Kd.V_old (vT aj.out) hb) (Kd.R_base ho0)) (Kd.R_base ho1)) (fun _ h_ => h_.1))
         replace ak := am (Kd.V_mono (Kd.V_told (Kd.V_told (Kd.V_old (vT ak.out) hb) (Kd.R_base ho0)) (Kd.R_base ho1)) (fun _ h_ => h_.1))
         replace al := am (Kd.V_mono (Kd.V_told (Kd.V_told (Kd.V_old (vT al.out) hb) (Kd.R_base ho0)) (Kd.R_base ho1)) (fun _ h_ => h_.1))
         have br := am (Kd.R_lower (Kd.R_newB (Kd.R_new' ho0 (Kd.R_lt (rT ad.out))) (g := ar) (o := .cells #[.string aw, .string ax] 27 (0, 0)) (bT ab.out)) (below_size (eTx HB.out)))
         have bs := am (Kd.R_lower (Kd.R_new' ho1 (Kd.R_lt (rT ac.out))) (below_size (eTx HB.out)))
         replace aa := am (bB aa.out hb)
         replace ae := am (bB ae.out hb)
         replace an := am (bB an.out hb)
         replace ad := am (Kd.R_elder' (rT ad.out) (Kd.R_base ho0) hb)
         replace ac := am (Kd.R_elder' (rT ac.out) (Kd.R_base ho1) hb)
         replace ab := am (bB ab.out hb)
         replace HB := am (sTx HB.out hb)
         obtain ⟨dQ, dR, cD⟩ := Kd.R_slice br.out
         (first | subst cD | (injection cD with f1_ f2_ f3_; have f4_ := f1_.symm; have f5_ := f3_.symm; clear f1_ f2_ f3_; subst f4_; subst f5_))
         obtain ⟨dS, dU, cE⟩ := Kd.R_slice bs.out
         (first | subst cE | (injection cE with f1_ f2_ f3_; have f4_ := f1_.symm; have f5_ := f3_.symm; clear f1_ f2_ f3_; subst f4_; subst f5_))
         refine hK.out _ _ ⟨cT ae 0, cT ae 1, cT aa 0, cT aa 1, cT ab 0, cT ab 1⟩ (fun hHeld => ?_)
         clear hK K
         refine mN 97 ?_
         refine oT 5 (bA 11 63) HT_.out fun K hK => ?_
         refine gS Tryz.func12 #[.agg #[.slice a6 aB.length a7, .slice a8 aC.length a9], .agg #[.slice dQ bQ.length dR, .slice dS bR.length dU]] ?_
         with_reducible refine (graftwoodref12_Same.calls kj69 _ _ aB _ _ aC _ _ bQ _ _ bR true _ (cW (Kd.V_reads' ai.out).2.2) ((Kd.V_reads' ai.out).2.1) (cW (Kd.V_reads' aj.out).2.2) ((Kd.V_reads' aj.out).2.1) (cW (Kd.R_reads' br.out).2.2) ((Kd.R_reads' br.out).2.1) (cW (Kd.R_reads' bs.out).2.2) ((Kd.R_reads' bs.out).2.1) dP.out).mono ?_
         rintro e hz ⟨rfl, hb⟩
         refine ⟨_, rfl, ?_⟩
         replace ad := am (rB ad.out hb)
         replace ac := am (rB ac.out hb)
         replace ai := am (vB ai.out hb)
         replace aj := am (vB aj.out hb)
         replace ak := am (vB ak.out hb)
         replace al := am (vB al.out hb)
         replace br := am (rB br.out hb)
         replace bs := am (rB bs.out hb)
         replace aa := am (bB aa.out hb)
         replace ab := am (bB ab.out hb)
         replace ae := am (bB ae.out hb)
         replace an := am (bB an.out hb)
         replace HB := am (sTx HB.out hb)
         refine hK.out _ _ ⟨cT ae 0, cT ae 1, cT aa 0, cT aa 1, cT ab 0, cT ab 1⟩ (fun hHeld => ?_)
         clear hK K
         refine mN 98 ?_
         refine pT 6 99 (bA 11 127) HT_.out ?_
         refine pT 7 100 (bA 11 255) HT_.out ?_
         refine pT 8 101 (bA 11 511) HT_.out ?_
         refine pT 9 102 (bA 11 1023) HT_.out ?_
         refine pT 10 103 (bA 11 2047) HT_.out ?_
         refine done_ (done_of HT_.out rfK) ?_
         try go_wp2
         go_meet
         case rel => exact ⟨_, ((aW != 0)), rfG, H', ⟨by have := HJ8.out; have := dq.out; first | omega | exact Nat.le_refl _⟩, ⟨by (with_reducible repeat (first | apply Kd.R_alloc | apply Kd.R_drewN | apply Kd.R_drew)); exact Kd.R_mono ad.out (fun _ hk => hk.1)⟩, ⟨by (with_reducible repeat (first | apply Kd.R_alloc | apply Kd.R_drewN | apply Kd.R_drew)); exact Kd.R_mono ac.out (fun _ hk => trivial)⟩, ⟨by (with_reducible repeat (first | apply Kd.V_alloc | apply Kd.V_drewN | apply Kd.V_drew)); exact Kd.V_mono ai.out (fun _ hk => ⟨hk.1.1.1, ⟨hk.1.1.2.1, ⟨hk.1.1.2.2.1, hk.1.1.2.2.2⟩⟩⟩)⟩, ⟨by (with_reducible repeat (first | apply Kd.V_alloc | apply Kd.V_drewN | apply Kd.V_drew)); exact Kd.V_mono aj.out (fun _ hk => ⟨hk.1.1.1, ⟨hk.1.1.2.1, ⟨hk.1.1.2.2.1, hk.1.1.2.2.2⟩⟩⟩)⟩, ⟨by (with_reducible repeat (first | apply Kd.V_alloc | apply Kd.V_drewN | apply Kd.V_drew)); exact Kd.V_mono ak.out (fun _ hk => ⟨hk.1.1.1, ⟨hk.1.1.2.1, ⟨hk.1.1.2.2.1, hk.1.1.2.2.2⟩⟩⟩)⟩, ⟨by (with_reducible repeat (first | apply Kd.V_alloc | apply Kd.V_drewN | apply Kd.V_drew)); exact Kd.V_mono al.out (fun _ hk => ⟨hk.1.1.1, ⟨hk.1.1.2.1, ⟨hk.1.1.2.2.1, hk.1.1.2.2.2⟩⟩⟩)⟩, ⟨bT aa.out⟩, ⟨bT ab.out⟩, ⟨bT ae.out⟩, ⟨bT an.out⟩, ⟨eTx HB.out⟩⟩
        ·have H' := Aside0.mk H
         clear H
         try go_wp2
         replace ad := am (Kd.R_drew ad.out)
         replace ac := am (Kd.R_drew ac.out)
         replace ai := am (Kd.V_drew ai.out)
         replace aj := am (Kd.V_drew aj.out)
         replace ak := am (Kd.V_drew ak.out)
         replace al := am (Kd.V_drew al.out)
         replace aa := am (blk_drew aa.out)
         replace ab := am (blk_drew ab.out)
         replace ae := am (blk_drew ae.out)
         replace an := am (blk_drew an.out)
         replace HB := am (below_drew1 HB.out)
         refine start_ (n := 11) (S := fun w' => w'.cell? ⟨ay, 0, none⟩ = some (.slice a6 aB.length a7) ∧ w'.cell? ⟨ay, 1, none⟩ = some (.slice a8 aC.length a9) ∧ w'.cell? ⟨aq, 0, none⟩ = some (.slice aK ah.length aJ) ∧ w'.cell? ⟨aq, 1, none⟩ = some (.slice aN ag.length aL) ∧ w'.cell? ⟨ar, 0, none⟩ = some (.string aw) ∧ w'.cell? ⟨ar, 1, none⟩ = some (.string ax)) (ds := []) (bA 11 0) rfK rfl rfK ⟨cT ae 0, cT ae 1, cT aa 0, cT aa 1, cT ab 0, cT ab 1⟩ (fun hHeld => ?_); refine with_tabW IST.tab9 IST.bits9 (fun HT_ HW_ => ?_)
         generalize wc.drew = hA at ad ac ai aj ak al aa ab ae an HB hHeld ⊢
         refine pT 3 96 (bA 11 8) HT_.out ?_
         refine tT 0 93 (bA 11 9) HT_.out HW_.out hHeld ?_ (hy := by rintro w' ⟨s0, s1, s2, s3, s4, s5⟩; go_simp; with_reducible rfl)
         refine tT 1 94 (bA 11 11) HT_.out HW_.out hHeld ?_ (hy := by rintro w' ⟨s0, s1, s2, s3, s4, s5⟩; go_simp; with_reducible rfl)
         refine tT 2 95 (bA 11 15) HT_.out HW_.out hHeld ?_ (hy := by rintro w' ⟨s0, s1, s2, s3, s4, s5⟩; go_simp; with_reducible rfl)
         refine oT 4 (bA 11 31) HT_.out fun K hK => ?_
         refine gS Tryz.func15 #[.agg #[.slice aK ah.length aJ, .slice aN ag.length aL], .agg #[.string aw, .string ax], .string a2] ?_
         with_reducible refine (graftwoodref12_Put.calls kj69 _ _ ah _ _ ag aw ax a2 bQ bR _ (cW (Kd.R_reads' ad.out).2.2) ((Kd.R_reads' ad.out).2.1) (cW (Kd.R_reads' ac.out).2.2) ((Kd.R_reads' ac.out).2.1) dN.out).mono ?_
         rintro e hB ⟨fR, fS, rfl, ho0, ho1, hb⟩
         refine ⟨_, rfl, ?_⟩
         replace ai := am (Kd.V_mono (Kd.V_told (Kd.V_told (Kd.V_old (vT ai.out) hb) (Kd.R_base ho0)) (Kd.R_base ho1)) (fun _ h_ => h_.1))
         replace aj := am (Kd.V_mono (Kd.V_told (Kd.V_told (Kd.V_old (vT aj.out) hb) (Kd.R_base ho0)) (Kd.R_base ho1)) (fun _ h_ => h_.1))
         replace ak := am (Kd.V_mono (Kd.V_told (Kd.V_told (Kd.V_old (vT ak.out) hb) (Kd.R_base ho0)) (Kd.R_base ho1)) (fun _ h_ => h_.1))
         replace al := am (Kd.V_mono (Kd.V_told (Kd.V_told (Kd.V_old (vT al.out) hb) (Kd.R_base ho0)) (Kd.R_base ho1)) (fun _ h_ => h_.1))
         have br := am (Kd.R_lower (Kd.R_newB (Kd.R_new' ho0 (Kd.R_lt (rT ad.out))) (g := ar) (o := .cells #[.string aw, .string ax] 27 (0, 0)) (bT ab.out)) (below_size (eTx HB.out)))
         have bs := am (Kd.R_lower (Kd.R_new' ho1 (Kd.R_lt (rT ac.out))) (below_size (eTx HB.out)))
         replace aa := am (bB aa.out hb)
         replace ae := am (bB ae.out hb)
         replace an := am (bB an.out hb)
         replace ad := am (Kd.R_elder' (rT ad.out) (Kd.R_base ho0) hb)
         replace ac := am (Kd.R_elder' (rT ac.out) (Kd.R_base ho1) hb)
         replace ab := am (bB ab.out hb)
         replace HB := am (sTx HB.out hb)
         obtain ⟨dV, dW, cF⟩ := Kd.R_slice br.out
         (first | subst cF | (injection cF with f1_ f2_ f3_; have f4_ := f1_.symm; have f5_ := f3_.symm; clear f1_ f2_ f3_; subst f4_; subst f5_))
         obtain ⟨dX, dY, cG⟩ := Kd.R_slice bs.out
         (first | subst cG | (injection cG with f1_ f2_ f3_; have f4_ := f1_.symm; have f5_ := f3_.symm; clear f1_ f2_ f3_; subst f4_; subst f5_))
         refine hK.out _ _ ⟨cT ae 0, cT ae 1, cT aa 0, cT aa 1, cT ab 0, cT ab 1⟩ (fun hHeld => ?_)
         clear hK K
         refine mN 97 ?_
         refine oT 5 (bA 11 63) HT_.out fun K hK => ?_
         refine gS Tryz.func12 #[.agg #[.slice a6 aB.length a7, .slice a8 aC.length a9], .agg #[.slice dV bQ.length dW, .slice dX bR.length dY]] ?_
         with_reducible refine (graftwoodref12_Same.calls kj69 _ _ aB _ _ aC _ _ bQ _ _ bR false _ (cW (Kd.V_reads' ai.out).2.2) ((Kd.V_reads' ai.out).2.1) (cW (Kd.V_reads' aj.out).2.2) ((Kd.V_reads' aj.out).2.1) (cW (Kd.R_reads' br.out).2.2) ((Kd.R_reads' br.out).2.1) (cW (Kd.R_reads' bs.out).2.2) ((Kd.R_reads' bs.out).2.1) dP.out).mono ?_
         rintro e hC ⟨rfl, hb⟩
         refine ⟨_, rfl, ?_⟩
         replace ad := am (rB ad.out hb)
         replace ac := am (rB ac.out hb)
         replace ai := am (vB ai.out hb)
         replace aj := am (vB aj.out hb)
         replace ak := am (vB ak.out hb)
         replace al := am (vB al.out hb)
         replace br := am (rB br.out hb)
         replace bs := am (rB bs.out hb)
         replace aa := am (bB aa.out hb)
         replace ab := am (bB ab.out hb)
         replace ae := am (bB ae.out hb)
         replace an := am (bB an.out hb)
         replace HB := am (sTx HB.out hb)
         refine hK.out _ _ ⟨cT ae 0, cT ae 1, cT aa 0, cT aa 1, cT ab 0, cT ab 1⟩ (fun hHeld => ?_)
         clear hK K
         refine mN 98 ?_
         refine pT 6 99 (bA 11 127) HT_.out ?_
         refine pT 7 100 (bA 11 255) HT_.out ?_
         refine pU 8 101 (bA 11 511) HT_.out ?_
         refine pU 9 102 (bA 11 1023) HT_.out ?_
         refine pT 10 103 (bA 11 2047) HT_.out ?_
         refine done_ (done_of HT_.out rfK) ?_
         try go_wp2
         go_meet
         case rel => exact ⟨_, (true), rfG, H', ⟨by have := HJ8.out; have := dq.out; first | omega | exact Nat.le_refl _⟩, ⟨by (with_reducible repeat (first | apply Kd.R_alloc | apply Kd.R_drewN | apply Kd.R_drew)); exact Kd.R_mono ad.out (fun _ hk => hk.1)⟩, ⟨by (with_reducible repeat (first | apply Kd.R_alloc | apply Kd.R_drewN | apply Kd.R_drew)); exact Kd.R_mono ac.out (fun _ hk => trivial)⟩, ⟨by (with_reducible repeat (first | apply Kd.V_alloc | apply Kd.V_drewN | apply Kd.V_drew)); exact Kd.V_mono ai.out (fun _ hk => ⟨hk.1.1.1, ⟨hk.1.1.2.1, ⟨hk.1.1.2.2.1, hk.1.1.2.2.2⟩⟩⟩)⟩, ⟨by (with_reducible repeat (first | apply Kd.V_alloc | apply Kd.V_drewN | apply Kd.V_drew)); exact Kd.V_mono aj.out (fun _ hk => ⟨hk.1.1.1, ⟨hk.1.1.2.1, ⟨hk.1.1.2.2.1, hk.1.1.2.2.2⟩⟩⟩)⟩, ⟨by (with_reducible repeat (first | apply Kd.V_alloc | apply Kd.V_drewN | apply Kd.V_drew)); exact Kd.V_mono ak.out (fun _ hk => ⟨hk.1.1.1, ⟨hk.1.1.2.1, ⟨hk.1.1.2.2.1, hk.1.1.2.2.2⟩⟩⟩)⟩, ⟨by (with_reducible repeat (first | apply Kd.V_alloc | apply Kd.V_drewN | apply Kd.V_drew)); exact Kd.V_mono al.out (fun _ hk => ⟨hk.1.1.1, ⟨hk.1.1.2.1, ⟨hk.1.1.2.2.1, hk.1.1.2.2.2⟩⟩⟩)⟩, ⟨bT aa.out⟩, ⟨bT ab.out⟩, ⟨bT ae.out⟩, ⟨bT an.out⟩, ⟨eTx HB.out⟩⟩
       case rest =>
        clear b8
        obtain ⟨kq, bx, rfl, HA, g_, ad, ac, ai, aj, ak, al, aa, ab, ae, an, HB⟩ := hcut
        cases kq with
        | zero => exact absurd HA.out (by simp [IST.j2])
        | succ kj150 =>
         have H := HA.out
         clear HA
         simp only [IST.j2] at H
         replace H := ifB H; rcases H with ⟨rfl, H⟩ | ⟨rfl, H⟩
         ·exact absurd ((smI H).trans hR_) (by decide)
         ·replace H := bnd H; obtain ⟨a5, eu, H⟩ := H
          by_cases b4 : a5 < 0
          ·rw [if_pos b4] at H
           have cQ := decide_eq_true b4
           clear b4
           replace H := ifT H hR_; obtain ⟨bS, H⟩ := H
           have cR := beq_iff_eq.mpr bS
           have cS := bne_eq_false_iff_eq.mpr bS
           clear bS
           replace H := ifT H hR_; obtain ⟨bU, H⟩ := H
           have cU := beq_iff_eq.mpr bU
           have cV := bne_eq_false_iff_eq.mpr bU
           clear bU
           replace H := bnd H; obtain ⟨bM, fT, H⟩ := H
           replace H := ifT H hR_; obtain ⟨rfl, H⟩ := H
           replace H := ifT H hR_; obtain ⟨bV, H⟩ := H
           have cX := beq_iff_eq.mpr bV
           have cY := bne_eq_false_iff_eq.mpr bV
           clear bV
           replace H := bnd H; obtain ⟨bC, fU, H⟩ := H
           obtain rfl := smI H
           have fV := aQ.out
           have fW := aR.out
           have fX := bb.out
           have fY := bm.out
           have fZ := aU.out
           have f0 := bo.out
           obtain ⟨ev, ew, ex, ey⟩ := bxB aa
           have f1 := bg.out
           have f2 := bp.out
           have f4 := aV.out
           have f5 := bq.out
           obtain ⟨ez, eA, eB, eC⟩ := bxB ab
           go_wp2_with (first | ((with_reducible refine gtC 16 ?_); refine xCb 106 Tryz.func16 (graftwoodref12_Place.calls kj150 _ _ ah _ _ ag aw ax a5 _ (cW (Kd.R_reads' ad.out).2.2) ((Kd.R_reads' ad.out).2.1) (cW (Kd.R_reads' ac.out).2.2) ((Kd.R_reads' ac.out).2.1) eu.out) fun co hb => ?_; replace ad := am (rB ad.out hb); replace ac := am (rB ac.out hb); replace ai := am (vB ai.out hb); replace aj := am (vB aj.out hb); replace ak := am (vB ak.out hb); replace al := am (vB al.out hb); replace aa := am (bB aa.out hb); replace ab := am (bB ab.out hb); replace ae := am (bB ae.out hb); replace an := am (bB an.out hb); replace HB := am (sTx HB.out hb); have f6 := bz.out; have f7 := aZ.out; obtain ⟨eD, eE, eF, eG⟩ := bxB an; obtain ⟨eH, eI, eJ, eK⟩ := bxB aa) | (go_at_call 12; (with_reducible refine (graftwoodref12_Same.calls kj150 _ _ au _ _ av _ _ ah _ _ ag true _ (cW (Kd.V_reads' ak.out).2.2) ((Kd.V_reads' ak.out).2.1) (cW (Kd.V_reads' al.out).2.2) ((Kd.V_reads' al.out).2.1) (cW (Kd.R_reads' ad.out).2.2) ((Kd.R_reads' ad.out).2.1) (cW (Kd.R_reads' ac.out).2.2) ((Kd.R_reads' ac.out).2.1) fT.out).mono ?_); rintro e hT ⟨rfl, hb⟩; replace ad := am (rB ad.out hb); replace ac := am (rB ac.out hb); replace ai := am (vB ai.out hb); replace aj := am (vB aj.out hb); replace ak := am (vB ak.out hb); replace al := am (vB al.out hb); replace aa := am (bB aa.out hb); replace ab := am (bB ab.out hb); replace ae := am (bB ae.out hb); replace an := am (bB an.out hb); replace HB := am (sTx HB.out hb)) | (go_at_call 14; (with_reducible refine (graftwoodlaw12_awake.calls kj150  bC _ fU.out (by first | exact hR_ | assumption)).mono ?_); rintro e hU ⟨rfl, hb⟩; replace ad := am (rB ad.out hb); replace ac := am (rB ac.out hb); replace ai := am (vB ai.out hb); replace aj := am (vB aj.out hb); replace ak := am (vB ak.out hb); replace al := am (vB al.out hb); replace aa := am (bB aa.out hb); replace ab := am (bB ab.out hb); replace ae := am (bB ae.out hb); replace an := am (bB an.out hb); replace HB := am (sTx HB.out hb)))
           go_ret
           exact ⟨rfF, eTx HB.out⟩
          ·as_aux_lemma =>
           rw [if_neg b4] at H
           have cQ := decide_eq_false b4
           clear b4
           by_cases cp : 0 ≤ a5
           ·as_aux_lemma =>
            rw [if_pos cp] at H
            have f8 := decide_eq_true cp
            clear cp
            by_cases cq : a5 < (ag.length : Int)
            ·as_aux_lemma =>
             rw [if_pos cq] at H
             have f9 := decide_eq_true cq
             clear cq
             by_cases bW : aO.toList = (rdOf ByteArray.empty ag a5).toList
             ·as_aux_lemma =>
              rw [if_pos bW] at H
              have cZ := beq_iff_eq.mpr bW
              have c0 := bne_eq_false_iff_eq.mpr bW
              clear bW
              by_cases bX : aP = 0
              ·as_aux_lemma =>
               rw [if_pos bX] at H
               have c2 := beq_iff_eq.mpr bX
               have c3 := bne_eq_false_iff_eq.mpr bX
               clear bX
               replace H := bnd H; obtain ⟨⟨cr, ct⟩, f_, H⟩ := H
               (try dsimp only at H)
               replace H := bnd H; obtain ⟨bH, ga, H⟩ := H
               replace H := ifT H hR_; obtain ⟨rfl, H⟩ := H
               by_cases bZ : aM = 0
               ·as_aux_lemma =>
                rw [if_pos bZ] at H
                have c4 := beq_iff_eq.mpr bZ
                have c_ := bne_eq_false_iff_eq.mpr bZ
                clear bZ
                replace H := bnd H; obtain ⟨bw, gb, H⟩ := H
                obtain rfl := smI H
                have gc := aQ.out
                have gd := aR.out
                have ge := bb.out
                have gf := bm.out
                have gg := aU.out
                have gh := bo.out
                obtain ⟨eL, eM, eN, eO⟩ := bxB aa
                have gi := bg.out
                have gj := bp.out
                have gk := aV.out
                have gl := bq.out
                obtain ⟨eP, eQ, eR, eS⟩ := bxB ab
                try go_wp2_with (first | ((with_reducible refine gtC 16 ?_); refine xCb 106 Tryz.func16 (graftwoodref12_Place.calls kj150 _ _ ah _ _ ag aw ax a5 _ (cW (Kd.R_reads' ad.out).2.2) ((Kd.R_reads' ad.out).2.1) (cW (Kd.R_reads' ac.out).2.2) ((Kd.R_reads' ac.out).2.1) eu.out) fun gm hb => ?_; replace ad := am (rB ad.out hb); replace ac := am (rB ac.out hb); replace ai := am (vB ai.out hb); replace aj := am (vB aj.out hb); replace ak := am (vB ak.out hb); replace al := am (vB al.out hb); replace aa := am (bB aa.out hb); replace ab := am (bB ab.out hb); replace ae := am (bB ae.out hb); replace an := am (bB an.out hb); replace HB := am (sTx HB.out hb)))
                replace ad := am (Kd.R_drew ad.out)
                replace ac := am (Kd.R_drew ac.out)
                replace ai := am (Kd.V_drew ai.out)
                replace aj := am (Kd.V_drew aj.out)
                replace ak := am (Kd.V_drew ak.out)
                replace al := am (Kd.V_drew al.out)
                replace aa := am (blk_drew aa.out)
                replace ab := am (blk_drew ab.out)
                replace ae := am (blk_drew ae.out)
                replace an := am (blk_drew an.out)
                replace HB := am (below_drew1 HB.out)
                have p543 : 0 ≤ (a5 : Int) := of_decide_eq_true rfA
                have q543 : a5 < (ag.length : Int) := of_decide_eq_true rfA
                obtain ⟨ad543, e543, b1⟩ := Kd.at_string (Kd.R_reads' ac.out).2.2 a5 p543 q543
                cases e543
                replace p543 := eq_true p543
                replace q543 := eq_true q543
                refine start_ (n := 26) (S := fun w' => w'.cell? ⟨aq, 0, none⟩ = some (.slice aK ah.length aJ) ∧ w'.cell? ⟨aq, 1, none⟩ = some (.slice (some ad543) ag.length aL) ∧ w'.cell? ⟨af, 0, none⟩ = some (.slice aD au.length aE) ∧ w'.cell? ⟨af, 1, none⟩ = some (.slice aF av.length aG) ∧ w'.cell? ⟨ar, 0, none⟩ = some (.string aw) ∧ w'.cell? ⟨ar, 1, none⟩ = some (.string ax) ∧ w'.cell? (ad543.add (a5).toNat) = some (.string (rdOf ByteArray.empty ag a5))) (ds := []) (bA 26 0) rfK rfl rfK ⟨cT aa 0, cT aa 1, cT an 0, cT an 1, cT ab 0, cT ab 1, b1⟩ (fun hHeld => ?_); refine with_tabW IST.tab14 IST.bits14 (fun HT_ HW_ => ?_)
                generalize gm.drew = hV at ad ac ai aj ak al aa ab ae an HB b1 hHeld ⊢
                refine pT 0 127 (bA 26 1) HT_.out ?_
                refine pT 1 128 (bA 26 3) HT_.out ?_
                refine pT 3 130 (bA 26 11) HT_.out ?_
                refine tT 2 129 (bA 26 15) HT_.out HW_.out hHeld ?_ (hy := by rintro w' ⟨s0, s1, s2, s3, s4, s5, s6⟩; go_simp; with_reducible rfl)
                refine pT 4 131 (bA 26 31) HT_.out ?_
                refine tT 5 132 (bA 26 63) HT_.out HW_.out hHeld ?_ (hy := by rintro w' ⟨s0, s1, s2, s3, s4, s5, s6⟩; go_simp; with_reducible rfl)
                refine pT 6 133 (bA 26 127) HT_.out ?_
                refine pT 7 134 (bA 26 255) HT_.out ?_
                refine pT 8 135 (bA 26 511) HT_.out ?_
                refine pT 9 136 (bA 26 1023) HT_.out ?_
                refine pT 10 137 (bA 26 2047) HT_.out ?_
                refine pT 11 138 (bA 26 4095) HT_.out ?_
                refine tT 12 139 (bA 26 8191) HT_.out HW_.out hHeld ?_ (hy := by rintro w' ⟨s0, s1, s2, s3, s4, s5, s6⟩; go_simp; with_reducible rfl)
                refine tT 13 140 (bA 26 16383) HT_.out HW_.out hHeld ?_ (hy := by rintro w' ⟨s0, s1, s2, s3, s4, s5, s6⟩; go_simp; with_reducible rfl)
                refine tT 14 141 (bA 26 32767) HT_.out HW_.out hHeld ?_ (hy := by rintro w' ⟨s0, s1, s2, s3, s4, s5, s6⟩; go_simp; with_reducible rfl)
                refine oT 15 (bA 26 65535) HT_.out fun K hK => ?_
                refine gS Tryz.func17 #[.agg #[.slice aK ah.length aJ, .slice (some ad543) ag.length aL], .agg #[.string aw, .string ax]] ?_
                with_reducible refine (graftwoodref12_Drop.calls kj150 _ _ ah _ _ ag aw ax cr ct _ (cW (Kd.R_reads' ad.out).2.2) ((Kd.R_reads' ad.out).2.1) (cW (Kd.R_reads' ac.out).2.2) ((Kd.R_reads' ac.out).2.1) f_.out).mono ?_
                rintro e hW ⟨hX, hY, rfl, ho0, ho1, hb⟩
                have HS6_ := (hb.cell (World.block_lt_of_cell? _ _ (hHeld.2.2.2.2.2.2))).trans (hHeld.2.2.2.2.2.2)
                refine ⟨_, rfl, ?_⟩
                replace ai := am (Kd.V_mono (Kd.V_told (Kd.V_told (Kd.V_old (vT ai.out) hb) (Kd.R_base ho0)) (Kd.R_base ho1)) (fun _ h_ => h_.1))
                replace aj := am (Kd.V_mono (Kd.V_told (Kd.V_told (Kd.V_old (vT aj.out) hb) (Kd.R_base ho0)) (Kd.R_base ho1)) (fun _ h_ => h_.1))
                replace ak := am (Kd.V_mono (Kd.V_told (Kd.V_told (Kd.V_old (vT ak.out) hb) (Kd.R_base ho0)) (Kd.R_base ho1)) (fun _ h_ => h_.1))
                replace al := am (Kd.V_mono (Kd.V_told (Kd.V_told (Kd.V_old (vT al.out) hb) (Kd.R_base ho0)) (Kd.R_base ho1)) (fun _ h_ => h_.1))
                have bE := am (Kd.R_lower (Kd.R_newB (Kd.R_new' ho0 (Kd.R_lt (rT ad.out))) (g := ar) (o := .cells #[.string aw, .string ax] 27 (0, 0)) (bT ab.out)) (below_size (eTx HB.out)))
                have bF := am (Kd.R_lower (Kd.R_new' ho1 (Kd.R_lt (rT ac.out))) (below_size (eTx HB.out)))
                replace aa := am (bB aa.out hb)
                replace ae := am (bB ae.out hb)
                replace an := am (bB an.out hb)
                replace ad := am (Kd.R_elder' (rT ad.out) (Kd.R_base ho0) hb)
                replace ac := am (Kd.R_elder' (rT ac.out) (Kd.R_base ho1) hb)
                replace ab := am (bB ab.out hb)
                replace HB := am (sTx HB.out hb)
                obtain ⟨eV, eW, cN⟩ := Kd.R_slice bE.out
                (first | subst cN | (injection cN with f1_ f2_ f3_; have f4_ := f1_.symm; have f5_ := f3_.symm; clear f1_ f2_ f3_; subst f4_; subst f5_))
                obtain ⟨eX, eY, cO⟩ := Kd.R_slice bF.out
                (first | subst cO | (injection cO with f1_ f2_ f3_; have f4_ := f1_.symm; have f5_ := f3_.symm; clear f1_ f2_ f3_; subst f4_; subst f5_))
                refine hK.out _ _ ⟨cT aa 0, cT aa 1, cT an 0, cT an 1, cT ab 0, cT ab 1, HS6_⟩ (fun hHeld => ?_)
                clear hK K
                refine mN 142 ?_
                refine oT 16 (bA 26 131071) HT_.out fun K hK => ?_
                refine gS Tryz.func12 #[.agg #[.slice aD au.length aE, .slice aF av.length aG], .agg #[.slice eV cr.length eW, .slice eX ct.length eY]] ?_
                with_reducible refine (graftwoodref12_Same.calls kj150 _ _ au _ _ av _ _ cr _ _ ct true _ (cW (Kd.V_reads' ak.out).2.2) ((Kd.V_reads' ak.out).2.1) (cW (Kd.V_reads' al.out).2.2) ((Kd.V_reads' al.out).2.1) (cW (Kd.R_reads' bE.out).2.2) ((Kd.R_reads' bE.out).2.1) (cW (Kd.R_reads' bF.out).2.2) ((Kd.R_reads' bF.out).2.1) ga.out).mono ?_
                rintro e hZ ⟨rfl, hb⟩
                have HS6_ := (hb.cell (World.block_lt_of_cell? _ _ (hHeld.2.2.2.2.2.2))).trans (hHeld.2.2.2.2.2.2)
                refine ⟨_, rfl, ?_⟩
                replace ad := am (rB ad.out hb)
                replace ac := am (rB ac.out hb)
                replace ai := am (vB ai.out hb)
                replace aj := am (vB aj.out hb)
                replace ak := am (vB ak.out hb)
                replace al := am (vB al.out hb)
                replace bE := am (rB bE.out hb)
                replace bF := am (rB bF.out hb)
                replace aa := am (bB aa.out hb)
                replace ab := am (bB ab.out hb)
                replace ae := am (bB ae.out hb)
                replace an := am (bB an.out hb)
                replace HB := am (sTx HB.out hb)
                refine hK.out _ _ ⟨cT aa 0, cT aa 1, cT an 0, cT an 1, cT ab 0, cT ab 1, HS6_⟩ (fun hHeld => ?_)
                clear hK K
                refine mN 143 ?_
                refine pT 17 144 (bA 26 262143) HT_.out ?_
                refine pT 18 145 (bA 26 524287) HT_.out ?_
                refine pT 19 146 (bA 26 1048575) HT_.out ?_
                refine pT 20 147 (bA 26 2097151) HT_.out ?_
                refine pT 21 148 (bA 26 4194303) HT_.out ?_
                refine pT 22 149 (bA 26 8388607) HT_.out ?_
                refine oT 23 (bA 26 16777215) HT_.out fun K hK => ?_
                refine gS Tryz.func14 #[] ?_
                with_reducible refine (graftwoodlaw12_awake.calls kj150  bw _ gb.out (by first | exact hR_ | assumption)).mono ?_
                rintro e h0 ⟨rfl, hb⟩
                have HS6_ := (hb.cell (World.block_lt_of_cell? _ _ (hHeld.2.2.2.2.2.2))).trans (hHeld.2.2.2.2.2.2)
                refine ⟨_, rfl, ?_⟩
                replace ad := am (rB ad.out hb)
                replace ac := am (rB ac.out hb)
                replace ai := am (vB ai.out hb)
                replace aj := am (vB aj.out hb)
                replace ak := am (vB ak.out hb)
                replace al := am (vB al.out hb)
                replace bE := am (rB bE.out hb)
                replace bF := am (rB bF.out hb)
                replace aa := am (bB aa.out hb)
                replace ab := am (bB ab.out hb)
                replace ae := am (bB ae.out hb)
                replace an := am (bB an.out hb)
                replace HB := am (sTx HB.out hb)
                refine hK.out _ _ ⟨cT aa 0, cT aa 1, cT an 0, cT an 1, cT ab 0, cT ab 1, HS6_⟩ (fun hHeld => ?_)
                clear hK K
                refine mN 150 ?_
                refine pT 24 151 (bA 26 33554431) HT_.out ?_
                refine pT 25 6 (bA 26 67108863) HT_.out ?_
                refine done_ (done_of HT_.out rfK) ?_
                try go_wp2
                go_ret
                exact ⟨rfF, eTx HB.out⟩
               ·rw [if_neg bZ] at H
                have c4 := beq_eq_false_iff_ne.mpr bZ
                have c_ := bne_iff_ne.mpr bZ
                exact absurd ((smI H).trans hR_) (by decide)
              ·rw [if_neg bX] at H
               have c2 := beq_eq_false_iff_ne.mpr bX
               have c3 := bne_iff_ne.mpr bX
               exact absurd ((smI H).trans hR_) (by decide)
             ·rw [if_neg bW] at H
              have cZ := beq_eq_false_iff_ne.mpr bW
              have c0 := bne_iff_ne.mpr bW
              exact absurd ((smI H).trans hR_) (by decide)
            ·rw [if_neg cq] at H
             exact absurd H (by simp)
           ·rw [if_neg cp] at H
            exact absurd H (by simp)

end Go.Proofs.YtomjppafgalaoaaGreatDoor.P
