-- Written by this project's own program (wip/tools/hp.py), driving the kit's print; hand texts among it. Not trusted: Lean checks it.
import Derived.Test.YtomjppafgalaoaaDoorThen
import Derived.Test.YtomjppafgalaoaaDoorP0
import Derived.Test.YtomjppafgalaoaaDoorP1
import Derived.Test.YtomjppafgalaoaaDoorP3
import Derived.Test.YtomjppafgalaoaaDoorP20
import Derived.Test.YtomjppafgalaoaaDoorP23
import Derived.Test.YtomjppafgalaoaaDoorP24
namespace Go.Proofs.YtomjppafgalaoaaDoor.P
open Go.RowKit Go.Proofs.YtomjppafgalaoaaDoorW.PrintWords Go.Proofs.YtomjppafgalaoaaDoorW.PrintLast Go.Proofs.YtomjppafgalaoaaDoorW.PrintMore
attribute [local go_sem] max2_int min2_int max_two min_two max_three min_three max_four min_four   -- for this text's walks alone
set_option linter.unusedVariables false
set_option linter.unusedSimpArgs false

attribute [local go_sem high] eqA27
-- half the indentation
/-! #### struct type 29 -/
structure S29 where
 f0 : S25
 f1 : S27
 f2 : S27
 f3 : ByteArray
def k29 : Kd S29 := Kd.iso (Kd.pair k25 (Kd.pair k27 (Kd.pair k27 Kd.string))) (fun x : S29 => (x.f0, x.f1, x.f2, x.f3))
theorem k29_open {w : World} {x : S29} {cs : List Value} (h : k29.K w x cs) : ∃ A0 c0 A1 c1, cs = [.slice A0 x.f0.f0.length c0, .slice A1 x.f0.f1.length c1, .string x.f1.f0, .string x.f1.f1, .string x.f2.f0, .string x.f2.f1, .string x.f3] ∧ x.f0.f0.length ≤ c0 ∧ k27.C w A0 x.f0.f0.length x.f0.f0 ∧ x.f0.f1.length ≤ c1 ∧ Kd.string.C w A1 x.f0.f1.length x.f0.f1 := by
 obtain ⟨_, _, rfl, h0, _, _, rfl, h1, _, _, rfl, h2, h3⟩ := h
 obtain ⟨A0, c0, A1, c1, rfl, l0, g0, l1, g1⟩ := k25_open h0
 obtain rfl := k27_open h1
 obtain rfl := k27_open h2
 obtain rfl : _ = [Value.string x.f3] := h3
 exact ⟨A0, c0, A1, c1, rfl, l0, g0, l1, g1⟩
/-! ### graftwoodlaw12_StoreGets: function 3 -/
def ISG.j0 : Nat → Bool → List (S27) → List ByteArray → ByteArray → ByteArray → ByteArray → ByteArray → List (S27) → List ByteArray → List (S27) → List ByteArray → Option (Bool)
 | 0, _, _, _, _, _, _, _, _, _, _, _ => none
 | k + 1, x84, ct, cu, cv, cw, b7, b8, cx, cy, cz, cA => if x84 = true then (some false) else (if (b7.toList == cv.toList && (b8.toList == cw.toList)) = true then ((graftwoodlaw12_awake.f k).bind fun cr => (some cr)) else ((store_Get.f k ct cu b7 b8).bind fun bt384 => ((store_Get.f k cx cy b7 b8).bind fun bt386 => ((store_Get.f k cz cA b7 b8).bind fun bt388 => (if bt384.1.toList = bt386.1.toList then (if bt384.2 = bt386.2 then (if bt384.1.toList = bt388.1.toList then (if bt384.2 = bt388.2 then ((graftwoodlaw12_awake.f k).bind fun b6 => (some b6)) else (some false)) else (some false)) else (some false)) else (some false))))))
def graftwoodlaw12_StoreGets.f (k : Nat) (l0_0 : List (S27)) (l0_1 : List ByteArray) (a0_2 : ByteArray) (a0_3 : ByteArray) (a0_4 : ByteArray) (a0_5 : ByteArray) (a0_6 : ByteArray) : Option (Bool) := (graftwoodlaw12_Few.f k l0_0 l0_1).bind fun bt347 => ((graftwoodlaw05_One.f a0_2 a0_3).bind fun bt353 => ((graftwoodlaw05_One.f a0_4 a0_5).bind fun bt355 => ((store_Put.f k bt347.1 bt347.2 bt353.1 bt353.2 a0_6).bind fun bt360 => (if bt360.2.2 = 0 then ((store_Get.f k bt360.1 bt360.2.1 bt353.1 bt353.2).bind fun bt369 => ((store_Drop.f k bt360.1 bt360.2.1 bt353.1 bt353.2).bind fun bt371 => ((store_Get.f k bt371.1 bt371.2.1 bt353.1 bt353.2).bind fun bt379 => (if bt369.1.toList = a0_6.toList then (if bt369.2 = 0 then (if bt371.2.2 = 0 then (if bt379.2 = 2 then ((store_Check.f k bt360.1 bt360.2.1).bind fun bu => (if bu = 0 then ((store_Check.f k bt371.1 bt371.2.1).bind fun bF => (ISG.j0 k (bF != 0) bt347.1 bt347.2 bt353.1 bt353.2 bt355.1 bt355.2 bt360.1 bt360.2.1 bt371.1 bt371.2.1)) else (ISG.j0 k true bt347.1 bt347.2 bt353.1 bt353.2 bt355.1 bt355.2 bt360.1 bt360.2.1 bt371.1 bt371.2.1))) else (ISG.j0 k true bt347.1 bt347.2 bt353.1 bt353.2 bt355.1 bt355.2 bt360.1 bt360.2.1 bt371.1 bt371.2.1)) else (ISG.j0 k true bt347.1 bt347.2 bt353.1 bt353.2 bt355.1 bt355.2 bt360.1 bt360.2.1 bt371.1 bt371.2.1)) else (ISG.j0 k true bt347.1 bt347.2 bt353.1 bt353.2 bt355.1 bt355.2 bt360.1 bt360.2.1 bt371.1 bt371.2.1)) else (ISG.j0 k true bt347.1 bt347.2 bt353.1 bt353.2 bt355.1 bt355.2 bt360.1 bt360.2.1 bt371.1 bt371.2.1))))) else ((graftwoodlaw12_awake.f k).bind fun bZ => (some bZ))))))
theorem ISG.mono_l : ∀ k, (∀ y0 y1 y2 y3 y4 y5 y6 y7 y8 y9 y10, LeO (ISG.j0 k y0 y1 y2 y3 y4 y5 y6 y7 y8 y9 y10) (ISG.j0 (k + 1) y0 y1 y2 y3 y4 y5 y6 y7 y8 y9 y10))
 | 0 => fun _ _ _ _ _ _ _ _ _ _ _ r h => by simp [ISG.j0] at h
 | k + 1 => by
  have ih0 := ISG.mono_l k
  ·intro y0 y1 y2 y3 y4 y5 y6 y7 y8 y9 y10
   unfold ISG.j0
   repeat' first
   | (with_reducible exact ih0 _ _ _ _ _ _ _ _ _ _ _)
   | (with_reducible exact graftwoodlaw12_Few.mono _ _ _)
   | (with_reducible exact graftwoodlaw12_awake.mono _)
   | (with_reducible exact store_Check.mono _ _ _)
   | (with_reducible exact store_Drop.mono _ _ _ _ _)
   | (with_reducible exact store_Get.mono _ _ _ _ _)
   | (with_reducible exact store_Put.mono _ _ _ _ _ _)
   | (with_reducible exact LeO.refl _)
   | (with_reducible exact LeO.none _)
   | (with_reducible refine LeO.ite ?_ ?_)
   | (with_reducible refine LeO.bind ?_ (fun _ => ?_))
   | refine LeO.ite ?_ ?_
   | refine LeO.bind ?_ (fun _ => ?_)
theorem graftwoodlaw12_StoreGets.mono : ∀ a0 a1 a2 a3 a4 a5 a6 k, LeO (graftwoodlaw12_StoreGets.f k a0 a1 a2 a3 a4 a5 a6) (graftwoodlaw12_StoreGets.f (k + 1) a0 a1 a2 a3 a4 a5 a6) := by
 intro a0 a1 a2 a3 a4 a5 a6 k
 have ih0 := ISG.mono_l k
 unfold graftwoodlaw12_StoreGets.f
 repeat' first
   | (with_reducible exact ih0 _ _ _ _ _ _ _ _ _ _ _)
   | (with_reducible exact graftwoodlaw12_Few.mono _ _ _)
   | (with_reducible exact graftwoodlaw12_awake.mono _)
   | (with_reducible exact store_Check.mono _ _ _)
   | (with_reducible exact store_Drop.mono _ _ _ _ _)
   | (with_reducible exact store_Get.mono _ _ _ _ _)
   | (with_reducible exact store_Put.mono _ _ _ _ _ _)
   | (with_reducible exact LeO.refl _)
   | (with_reducible exact LeO.none _)
   | (with_reducible refine LeO.ite ?_ ?_)
   | (with_reducible refine LeO.bind ?_ (fun _ => ?_))
   | refine LeO.ite ?_ ?_
   | refine LeO.bind ?_ (fun _ => ?_)
def ISG.T1 : Bool × List (List Nat × List Nat) := (true, [([], []), ([0], [0]), ([1], [1]), ([], []), ([3], [3]), ([4, 2], [4]), ([], []), ([6], [6]), ([7, 5], [7]), ([], []), ([9], [9]), ([], []), ([], []), ([], []), ([11, 2, 8, 0, 1, 2, 11, 12, 13], [2, 11]), ([12, 5, 14, 0, 1, 2, 3, 4, 5, 11, 12, 13, 14], [5, 12]), ([13, 8, 15, 0, 1, 2, 3, 4, 5, 6, 7, 8, 11, 12, 13, 14, 15], [8, 13]), ([10, 16, 0, 1, 2, 3, 4, 5, 6, 7, 8, 9, 10, 11, 12, 13, 14, 15, 16], [10])])
def ISG.B1 : List Nat := [0, 1, 3, 0, 8, 31, 0, 64, 255, 0, 512, 0, 0, 0, 14847, 31231, 63999, 131071]
theorem ISG.tab1 : rtab .any (opsOf Tryd.f3 1) = ISG.T1 := by kernel_rfl
theorem ISG.bits1 : waitsOk ISG.T1.2 ISG.B1 = true := by kernel_rfl
set_option maxHeartbeats 80000000 in
set_option maxRecDepth 100000 in
theorem graftwoodlaw12_StoreGets.calls (k : Nat) (aD : Option Addr) (aE : Nat) (l0_0 : List (S27)) (aF : Option Addr) (aG : Nat) (l0_1 : List ByteArray) (a0_2 : ByteArray) (a0_3 : ByteArray) (a0_4 : ByteArray) (a0_5 : ByteArray) (a0_6 : ByteArray) (r : Bool) (w : World) (hr0_0 : Kd.C k27 w aD l0_0.length l0_0) (hc0_0 : l0_0.length ≤ aE) (hr0_1 : Kd.C Kd.string w aF l0_1.length l0_1) (hc0_1 : l0_1.length ≤ aG) (h : graftwoodlaw12_StoreGets.f k l0_0 l0_1 a0_2 a0_3 a0_4 a0_5 a0_6 = some r) (hR_ : r = true) :
  Calls Tryd.prog 3 #[.agg #[.slice aD l0_0.length aE, .slice aF l0_1.length aG, .string a0_2, .string a0_3, .string a0_4, .string a0_5, .string a0_6]] w fun e w' => e = .returned (.bool r) ∧ Below w.heap.size w w' := by
 have hu29 := Tryd.underlying29
 have hu25 := Tryd.underlying25
 have hu27 := Tryd.underlying27
 have b2 := Aside0.mk hr0_0
 have b3 := Aside0.mk hc0_0
 clear hr0_0 hc0_0
 have b4 := Aside0.mk hr0_1
 have b5 := Aside0.mk hc0_1
 clear hr0_1 hc0_1
 have HB := am (Below.refl w.heap.size w)
 have H : ((graftwoodlaw12_Few.f k l0_0 l0_1).bind fun bt347 => ((graftwoodlaw05_One.f a0_2 a0_3).bind fun bt353 => ((graftwoodlaw05_One.f a0_4 a0_5).bind fun bt355 => ((store_Put.f k bt347.1 bt347.2 bt353.1 bt353.2 a0_6).bind fun bt360 => (if bt360.2.2 = 0 then ((store_Get.f k bt360.1 bt360.2.1 bt353.1 bt353.2).bind fun bt369 => ((store_Drop.f k bt360.1 bt360.2.1 bt353.1 bt353.2).bind fun bt371 => ((store_Get.f k bt371.1 bt371.2.1 bt353.1 bt353.2).bind fun bt379 => (if bt369.1.toList = a0_6.toList then (if bt369.2 = 0 then (if bt371.2.2 = 0 then (if bt379.2 = 2 then ((store_Check.f k bt360.1 bt360.2.1).bind fun bu => (if bu = 0 then ((store_Check.f k bt371.1 bt371.2.1).bind fun bF => (ISG.j0 k (bF != 0) bt347.1 bt347.2 bt353.1 bt353.2 bt355.1 bt355.2 bt360.1 bt360.2.1 bt371.1 bt371.2.1)) else (ISG.j0 k true bt347.1 bt347.2 bt353.1 bt353.2 bt355.1 bt355.2 bt360.1 bt360.2.1 bt371.1 bt371.2.1))) else (ISG.j0 k true bt347.1 bt347.2 bt353.1 bt353.2 bt355.1 bt355.2 bt360.1 bt360.2.1 bt371.1 bt371.2.1)) else (ISG.j0 k true bt347.1 bt347.2 bt353.1 bt353.2 bt355.1 bt355.2 bt360.1 bt360.2.1 bt371.1 bt371.2.1)) else (ISG.j0 k true bt347.1 bt347.2 bt353.1 bt353.2 bt355.1 bt355.2 bt360.1 bt360.2.1 bt371.1 bt371.2.1)) else (ISG.j0 k true bt347.1 bt347.2 bt353.1 bt353.2 bt355.1 bt355.2 bt360.1 bt360.2.1 bt371.1 bt371.2.1))))) else ((graftwoodlaw12_awake.f k).bind fun bZ => (some bZ))))))) = some r := h
 clear h
 replace H := Option.bind_eq_some_iff.mp H
 obtain ⟨⟨az, aA⟩, A20, H⟩ := H
 replace H : ((graftwoodlaw05_One.f a0_2 a0_3).bind fun bt353 => ((graftwoodlaw05_One.f a0_4 a0_5).bind fun bt355 => ((store_Put.f k az aA bt353.1 bt353.2 a0_6).bind fun bt360 => (if bt360.2.2 = 0 then ((store_Get.f k bt360.1 bt360.2.1 bt353.1 bt353.2).bind fun bt369 => ((store_Drop.f k bt360.1 bt360.2.1 bt353.1 bt353.2).bind fun bt371 => ((store_Get.f k bt371.1 bt371.2.1 bt353.1 bt353.2).bind fun bt379 => (if bt369.1.toList = a0_6.toList then (if bt369.2 = 0 then (if bt371.2.2 = 0 then (if bt379.2 = 2 then ((store_Check.f k bt360.1 bt360.2.1).bind fun bu => (if bu = 0 then ((store_Check.f k bt371.1 bt371.2.1).bind fun bF => (ISG.j0 k (bF != 0) az aA bt353.1 bt353.2 bt355.1 bt355.2 bt360.1 bt360.2.1 bt371.1 bt371.2.1)) else (ISG.j0 k true az aA bt353.1 bt353.2 bt355.1 bt355.2 bt360.1 bt360.2.1 bt371.1 bt371.2.1))) else (ISG.j0 k true az aA bt353.1 bt353.2 bt355.1 bt355.2 bt360.1 bt360.2.1 bt371.1 bt371.2.1)) else (ISG.j0 k true az aA bt353.1 bt353.2 bt355.1 bt355.2 bt360.1 bt360.2.1 bt371.1 bt371.2.1)) else (ISG.j0 k true az aA bt353.1 bt353.2 bt355.1 bt355.2 bt360.1 bt360.2.1 bt371.1 bt371.2.1)) else (ISG.j0 k true az aA bt353.1 bt353.2 bt355.1 bt355.2 bt360.1 bt360.2.1 bt371.1 bt371.2.1))))) else ((graftwoodlaw12_awake.f k).bind fun bZ => (some bZ)))))) = some r := H
 have A2 := Aside0.mk A20
 clear A20
 replace H := Option.bind_eq_some_iff.mp H
 obtain ⟨⟨aB, aC⟩, A30, H⟩ := H
 replace H : ((graftwoodlaw05_One.f a0_4 a0_5).bind fun bt355 => ((store_Put.f k az aA aB aC a0_6).bind fun bt360 => (if bt360.2.2 = 0 then ((store_Get.f k bt360.1 bt360.2.1 aB aC).bind fun bt369 => ((store_Drop.f k bt360.1 bt360.2.1 aB aC).bind fun bt371 => ((store_Get.f k bt371.1 bt371.2.1 aB aC).bind fun bt379 => (if bt369.1.toList = a0_6.toList then (if bt369.2 = 0 then (if bt371.2.2 = 0 then (if bt379.2 = 2 then ((store_Check.f k bt360.1 bt360.2.1).bind fun bu => (if bu = 0 then ((store_Check.f k bt371.1 bt371.2.1).bind fun bF => (ISG.j0 k (bF != 0) az aA aB aC bt355.1 bt355.2 bt360.1 bt360.2.1 bt371.1 bt371.2.1)) else (ISG.j0 k true az aA aB aC bt355.1 bt355.2 bt360.1 bt360.2.1 bt371.1 bt371.2.1))) else (ISG.j0 k true az aA aB aC bt355.1 bt355.2 bt360.1 bt360.2.1 bt371.1 bt371.2.1)) else (ISG.j0 k true az aA aB aC bt355.1 bt355.2 bt360.1 bt360.2.1 bt371.1 bt371.2.1)) else (ISG.j0 k true az aA aB aC bt355.1 bt355.2 bt360.1 bt360.2.1 bt371.1 bt371.2.1)) else (ISG.j0 k true az aA aB aC bt355.1 bt355.2 bt360.1 bt360.2.1 bt371.1 bt371.2.1))))) else ((graftwoodlaw12_awake.f k).bind fun bZ => (some bZ))))) = some r := H
 have A3 := Aside0.mk A30
 clear A30
 replace H := Option.bind_eq_some_iff.mp H
 obtain ⟨⟨aP, aQ⟩, A40, H⟩ := H
 replace H : ((store_Put.f k az aA aB aC a0_6).bind fun bt360 => (if bt360.2.2 = 0 then ((store_Get.f k bt360.1 bt360.2.1 aB aC).bind fun bt369 => ((store_Drop.f k bt360.1 bt360.2.1 aB aC).bind fun bt371 => ((store_Get.f k bt371.1 bt371.2.1 aB aC).bind fun bt379 => (if bt369.1.toList = a0_6.toList then (if bt369.2 = 0 then (if bt371.2.2 = 0 then (if bt379.2 = 2 then ((store_Check.f k bt360.1 bt360.2.1).bind fun bu => (if bu = 0 then ((store_Check.f k bt371.1 bt371.2.1).bind fun bF => (ISG.j0 k (bF != 0) az aA aB aC aP aQ bt360.1 bt360.2.1 bt371.1 bt371.2.1)) else (ISG.j0 k true az aA aB aC aP aQ bt360.1 bt360.2.1 bt371.1 bt371.2.1))) else (ISG.j0 k true az aA aB aC aP aQ bt360.1 bt360.2.1 bt371.1 bt371.2.1)) else (ISG.j0 k true az aA aB aC aP aQ bt360.1 bt360.2.1 bt371.1 bt371.2.1)) else (ISG.j0 k true az aA aB aC aP aQ bt360.1 bt360.2.1 bt371.1 bt371.2.1)) else (ISG.j0 k true az aA aB aC aP aQ bt360.1 bt360.2.1 bt371.1 bt371.2.1))))) else ((graftwoodlaw12_awake.f k).bind fun bZ => (some bZ)))) = some r := H
 have A4 := Aside0.mk A40
 clear A40
 replace H := Option.bind_eq_some_iff.mp H
 obtain ⟨⟨aV, aW, cd⟩, A50, H⟩ := H
 replace H : (if cd = 0 then ((store_Get.f k aV aW aB aC).bind fun bt369 => ((store_Drop.f k aV aW aB aC).bind fun bt371 => ((store_Get.f k bt371.1 bt371.2.1 aB aC).bind fun bt379 => (if bt369.1.toList = a0_6.toList then (if bt369.2 = 0 then (if bt371.2.2 = 0 then (if bt379.2 = 2 then ((store_Check.f k aV aW).bind fun bu => (if bu = 0 then ((store_Check.f k bt371.1 bt371.2.1).bind fun bF => (ISG.j0 k (bF != 0) az aA aB aC aP aQ aV aW bt371.1 bt371.2.1)) else (ISG.j0 k true az aA aB aC aP aQ aV aW bt371.1 bt371.2.1))) else (ISG.j0 k true az aA aB aC aP aQ aV aW bt371.1 bt371.2.1)) else (ISG.j0 k true az aA aB aC aP aQ aV aW bt371.1 bt371.2.1)) else (ISG.j0 k true az aA aB aC aP aQ aV aW bt371.1 bt371.2.1)) else (ISG.j0 k true az aA aB aC aP aQ aV aW bt371.1 bt371.2.1))))) else ((graftwoodlaw12_awake.f k).bind fun bZ => (some bZ))) = some r := H
 have A5 := Aside0.mk A50
 clear A50
 have HCx_ := Aside0.mk H
 clear H
 go_enter Tryd.func3, Tryd.ntmps3
 try go_wp2_with (first | ((with_reducible refine gate_dst (N := 1) rfl ?_); refine box_event ?hg (N := 1) ?hd (cs := #[.slice aD l0_0.length aE, .slice aF l0_1.length aG, .string a0_2, .string a0_3, .string a0_4, .string a0_5, .string a0_6]) (t := 29) ?hr ?_; (case hd => rfl); (case hg => rfl); (case hr => first | (go_simp; done) | (go_simp; rfl)); intro ab hg w11 hbox hb; have aa := am (hbox); have hw := am ((gT hg HB.out)); have hx := am ((gT hg HB.out)); replace HB := am (sT HB.out hb); clear hb hbox hg))
 replace aa := am (blk_drew aa.out)
 replace HB := am (below_drew1 HB.out)
 refine start_ (n := 18) (S := fun w' => w'.cell? ⟨ab, 0, none⟩ = some (.slice aD l0_0.length aE) ∧ w'.cell? ⟨ab, 1, none⟩ = some (.slice aF l0_1.length aG) ∧ w'.cell? ⟨ab, 2, none⟩ = some (.string a0_2) ∧ w'.cell? ⟨ab, 3, none⟩ = some (.string a0_3) ∧ w'.cell? ⟨ab, 4, none⟩ = some (.string a0_4) ∧ w'.cell? ⟨ab, 5, none⟩ = some (.string a0_5) ∧ w'.cell? ⟨ab, 6, none⟩ = some (.string a0_6)) (ds := []) (bA 18 0) (by kernel_rfl) rfl (by kernel_rfl) ⟨cT aa 0, cT aa 1, cT aa 2, cT aa 3, cT aa 4, cT aa 5, cT aa 6⟩ (fun hHeld => ?_); refine with_tabW ISG.tab1 ISG.bits1 (fun HT_ HW_ => ?_)
 generalize w11.drew = w12 at aa HB hHeld ⊢
 refine pT 0 21 (bA 18 1) HT_.out ?_
 refine pT 3 24 (bA 18 9) HT_.out ?_
 refine pT 6 27 (bA 18 73) HT_.out ?_
 refine pT 9 30 (bA 18 585) HT_.out ?_
 refine tT 1 22 (bA 18 587) HT_.out HW_.out hHeld ?_ (hy := by rintro w' ⟨s0, s1, s2, s3, s4, s5, s6⟩; go_simp; with_reducible rfl)
 refine tT 4 25 (bA 18 603) HT_.out HW_.out hHeld ?_ (hy := by rintro w' ⟨s0, s1, s2, s3, s4, s5, s6⟩; go_simp; with_reducible rfl)
 refine tT 7 28 (bA 18 731) HT_.out HW_.out hHeld ?_ (hy := by rintro w' ⟨s0, s1, s2, s3, s4, s5, s6⟩; go_simp; with_reducible rfl)
 refine tT 10 31 (bA 18 1755) HT_.out HW_.out hHeld ?_ (hy := by rintro w' ⟨s0, s1, s2, s3, s4, s5, s6⟩; go_simp; with_reducible rfl)
 refine jT (σ := Value × Value × Nat × Nat × Nat) 4 (bA 18 16383) (fun s_ => [(23, .agg #[s_.1, s_.2.1]), (26, .agg #[.string aB, .string aC]), (29, .agg #[.string aP, .string aQ]), (3, .pointer (some ⟨s_.2.2.1, 0, none⟩)), (4, .pointer (some ⟨s_.2.2.2.1, 0, none⟩)), (5, .pointer (some ⟨s_.2.2.2.2, 0, none⟩))]) (fun s_ w' => (w'.cell? ⟨ab, 0, none⟩ = some (.slice aD l0_0.length aE) ∧ w'.cell? ⟨ab, 1, none⟩ = some (.slice aF l0_1.length aG) ∧ w'.cell? ⟨ab, 2, none⟩ = some (.string a0_2) ∧ w'.cell? ⟨ab, 3, none⟩ = some (.string a0_3) ∧ w'.cell? ⟨ab, 4, none⟩ = some (.string a0_4) ∧ w'.cell? ⟨ab, 5, none⟩ = some (.string a0_5) ∧ w'.cell? ⟨ab, 6, none⟩ = some (.string a0_6)) ∧ (Kd.R k27 27 w' w.heap.size (fun k_ => k_ ≠ s_.2.2.2.1 ∧ k_ ≠ s_.2.2.2.2) s_.1 az) ∧ (Kd.R Kd.string 9 w' w.heap.size (fun _ => True) s_.2.1 aA) ∧ (w'.heap[ab]? = some (.cells #[.slice aD l0_0.length aE, .slice aF l0_1.length aG, .string a0_2, .string a0_3, .string a0_4, .string a0_5, .string a0_6] 29 (0, 0))) ∧ (w'.heap[s_.2.2.1]? = some (.cells #[.slice none 0 0, .slice none 0 0] 25 (0, 0))) ∧ (w'.heap[s_.2.2.2.1]? = some (.cells #[.string (⟨#[]⟩ : ByteArray), .string (⟨#[]⟩ : ByteArray)] 27 (0, 0))) ∧ (w'.heap[s_.2.2.2.2]? = some (.cells #[.string (⟨#[]⟩ : ByteArray), .string (⟨#[]⟩ : ByteArray)] 27 (0, 0))) ∧ (w.heap.size ≤ s_.2.2.1) ∧ (w.heap.size ≤ s_.2.2.1) ∧ (ab ≠ s_.2.2.1) ∧ (s_.2.2.1 ≠ ab) ∧ (s_.2.2.2.1 ≠ s_.2.2.1) ∧ (s_.2.2.1 ≠ s_.2.2.2.1) ∧ (s_.2.2.2.2 ≠ s_.2.2.1) ∧ (s_.2.2.1 ≠ s_.2.2.2.2) ∧ (w.heap.size ≤ s_.2.2.2.1) ∧ (w.heap.size ≤ s_.2.2.2.1) ∧ (ab ≠ s_.2.2.2.1) ∧ (s_.2.2.2.1 ≠ ab) ∧ (s_.2.2.2.2 ≠ s_.2.2.2.1) ∧ (s_.2.2.2.1 ≠ s_.2.2.2.2) ∧ (w.heap.size ≤ s_.2.2.2.2) ∧ (w.heap.size ≤ s_.2.2.2.2) ∧ (ab ≠ s_.2.2.2.2) ∧ (s_.2.2.2.2 ≠ ab) ∧ (Below w.heap.size w w')) ?_ ?_
 intro hJ2_5_8_11_12_13
 refine jT (σ := Value × Value × Nat × Nat) 5 (bA 18 8191) (fun s_ => [(23, .agg #[s_.1, s_.2.1]), (26, .agg #[.string aB, .string aC]), (29, .agg #[.string aP, .string aQ]), (3, .pointer (some ⟨s_.2.2.1, 0, none⟩)), (4, .pointer (some ⟨s_.2.2.2, 0, none⟩))]) (fun s_ w' => (w'.cell? ⟨ab, 0, none⟩ = some (.slice aD l0_0.length aE) ∧ w'.cell? ⟨ab, 1, none⟩ = some (.slice aF l0_1.length aG) ∧ w'.cell? ⟨ab, 2, none⟩ = some (.string a0_2) ∧ w'.cell? ⟨ab, 3, none⟩ = some (.string a0_3) ∧ w'.cell? ⟨ab, 4, none⟩ = some (.string a0_4) ∧ w'.cell? ⟨ab, 5, none⟩ = some (.string a0_5) ∧ w'.cell? ⟨ab, 6, none⟩ = some (.string a0_6)) ∧ (Kd.R k27 27 w' w.heap.size (fun k_ => k_ ≠ s_.2.2.2) s_.1 az) ∧ (Kd.R Kd.string 9 w' w.heap.size (fun _ => True) s_.2.1 aA) ∧ (w'.heap[ab]? = some (.cells #[.slice aD l0_0.length aE, .slice aF l0_1.length aG, .string a0_2, .string a0_3, .string a0_4, .string a0_5, .string a0_6] 29 (0, 0))) ∧ (w'.heap[s_.2.2.1]? = some (.cells #[.slice none 0 0, .slice none 0 0] 25 (0, 0))) ∧ (w'.heap[s_.2.2.2]? = some (.cells #[.string (⟨#[]⟩ : ByteArray), .string (⟨#[]⟩ : ByteArray)] 27 (0, 0))) ∧ (w.heap.size ≤ s_.2.2.1) ∧ (w.heap.size ≤ s_.2.2.1) ∧ (ab ≠ s_.2.2.1) ∧ (s_.2.2.1 ≠ ab) ∧ (s_.2.2.2 ≠ s_.2.2.1) ∧ (s_.2.2.1 ≠ s_.2.2.2) ∧ (w.heap.size ≤ s_.2.2.2) ∧ (w.heap.size ≤ s_.2.2.2) ∧ (ab ≠ s_.2.2.2) ∧ (s_.2.2.2 ≠ ab) ∧ (Below w.heap.size w w')) ?_ ?_
 intro hJ2_5_8_11_12
 refine jT (σ := Value × Value × Nat × Nat) 5 (bA 18 12287) (fun s_ => [(23, .agg #[s_.1, s_.2.1]), (26, .agg #[.string aB, .string aC]), (29, .agg #[.string aP, .string aQ]), (3, .pointer (some ⟨s_.2.2.1, 0, none⟩)), (5, .pointer (some ⟨s_.2.2.2, 0, none⟩))]) (fun s_ w' => (w'.cell? ⟨ab, 0, none⟩ = some (.slice aD l0_0.length aE) ∧ w'.cell? ⟨ab, 1, none⟩ = some (.slice aF l0_1.length aG) ∧ w'.cell? ⟨ab, 2, none⟩ = some (.string a0_2) ∧ w'.cell? ⟨ab, 3, none⟩ = some (.string a0_3) ∧ w'.cell? ⟨ab, 4, none⟩ = some (.string a0_4) ∧ w'.cell? ⟨ab, 5, none⟩ = some (.string a0_5) ∧ w'.cell? ⟨ab, 6, none⟩ = some (.string a0_6)) ∧ (Kd.R k27 27 w' w.heap.size (fun k_ => k_ ≠ s_.2.2.2) s_.1 az) ∧ (Kd.R Kd.string 9 w' w.heap.size (fun _ => True) s_.2.1 aA) ∧ (w'.heap[ab]? = some (.cells #[.slice aD l0_0.length aE, .slice aF l0_1.length aG, .string a0_2, .string a0_3, .string a0_4, .string a0_5, .string a0_6] 29 (0, 0))) ∧ (w'.heap[s_.2.2.1]? = some (.cells #[.slice none 0 0, .slice none 0 0] 25 (0, 0))) ∧ (w'.heap[s_.2.2.2]? = some (.cells #[.string (⟨#[]⟩ : ByteArray), .string (⟨#[]⟩ : ByteArray)] 27 (0, 0))) ∧ (w.heap.size ≤ s_.2.2.1) ∧ (w.heap.size ≤ s_.2.2.1) ∧ (ab ≠ s_.2.2.1) ∧ (s_.2.2.1 ≠ ab) ∧ (s_.2.2.2 ≠ s_.2.2.1) ∧ (s_.2.2.1 ≠ s_.2.2.2) ∧ (w.heap.size ≤ s_.2.2.2) ∧ (w.heap.size ≤ s_.2.2.2) ∧ (ab ≠ s_.2.2.2) ∧ (s_.2.2.2 ≠ ab) ∧ (Below w.heap.size w w')) ?_ ?_
 intro hJ2_5_8_11_13
 refine jT (σ := Value × Value × Nat × Nat) 5 (bA 18 14335) (fun s_ => [(23, .agg #[s_.1, s_.2.1]), (26, .agg #[.string aB, .string aC]), (29, .agg #[.string aP, .string aQ]), (4, .pointer (some ⟨s_.2.2.1, 0, none⟩)), (5, .pointer (some ⟨s_.2.2.2, 0, none⟩))]) (fun s_ w' => (w'.cell? ⟨ab, 0, none⟩ = some (.slice aD l0_0.length aE) ∧ w'.cell? ⟨ab, 1, none⟩ = some (.slice aF l0_1.length aG) ∧ w'.cell? ⟨ab, 2, none⟩ = some (.string a0_2) ∧ w'.cell? ⟨ab, 3, none⟩ = some (.string a0_3) ∧ w'.cell? ⟨ab, 4, none⟩ = some (.string a0_4) ∧ w'.cell? ⟨ab, 5, none⟩ = some (.string a0_5) ∧ w'.cell? ⟨ab, 6, none⟩ = some (.string a0_6)) ∧ (Kd.R k27 27 w' w.heap.size (fun k_ => k_ ≠ s_.2.2.1 ∧ k_ ≠ s_.2.2.2) s_.1 az) ∧ (Kd.R Kd.string 9 w' w.heap.size (fun _ => True) s_.2.1 aA) ∧ (w'.heap[ab]? = some (.cells #[.slice aD l0_0.length aE, .slice aF l0_1.length aG, .string a0_2, .string a0_3, .string a0_4, .string a0_5, .string a0_6] 29 (0, 0))) ∧ (w'.heap[s_.2.2.1]? = some (.cells #[.string (⟨#[]⟩ : ByteArray), .string (⟨#[]⟩ : ByteArray)] 27 (0, 0))) ∧ (w'.heap[s_.2.2.2]? = some (.cells #[.string (⟨#[]⟩ : ByteArray), .string (⟨#[]⟩ : ByteArray)] 27 (0, 0))) ∧ (w.heap.size ≤ s_.2.2.1) ∧ (w.heap.size ≤ s_.2.2.1) ∧ (ab ≠ s_.2.2.1) ∧ (s_.2.2.1 ≠ ab) ∧ (s_.2.2.2 ≠ s_.2.2.1) ∧ (s_.2.2.1 ≠ s_.2.2.2) ∧ (w.heap.size ≤ s_.2.2.2) ∧ (w.heap.size ≤ s_.2.2.2) ∧ (ab ≠ s_.2.2.2) ∧ (s_.2.2.2 ≠ ab) ∧ (Below w.heap.size w w')) ?_ ?_
 intro hJ2_5_8_12_13
 refine jT (σ := Value × Value × Nat × Nat × Nat) 5 (bA 18 16127) (fun s_ => [(23, .agg #[s_.1, s_.2.1]), (26, .agg #[.string aB, .string aC]), (3, .pointer (some ⟨s_.2.2.1, 0, none⟩)), (4, .pointer (some ⟨s_.2.2.2.1, 0, none⟩)), (5, .pointer (some ⟨s_.2.2.2.2, 0, none⟩))]) (fun s_ w' => (w'.cell? ⟨ab, 0, none⟩ = some (.slice aD l0_0.length aE) ∧ w'.cell? ⟨ab, 1, none⟩ = some (.slice aF l0_1.length aG) ∧ w'.cell? ⟨ab, 2, none⟩ = some (.string a0_2) ∧ w'.cell? ⟨ab, 3, none⟩ = some (.string a0_3) ∧ w'.cell? ⟨ab, 4, none⟩ = some (.string a0_4) ∧ w'.cell? ⟨ab, 5, none⟩ = some (.string a0_5) ∧ w'.cell? ⟨ab, 6, none⟩ = some (.string a0_6)) ∧ (Kd.R k27 27 w' w.heap.size (fun k_ => k_ ≠ s_.2.2.2.1 ∧ k_ ≠ s_.2.2.2.2) s_.1 az) ∧ (Kd.R Kd.string 9 w' w.heap.size (fun _ => True) s_.2.1 aA) ∧ (w'.heap[ab]? = some (.cells #[.slice aD l0_0.length aE, .slice aF l0_1.length aG, .string a0_2, .string a0_3, .string a0_4, .string a0_5, .string a0_6] 29 (0, 0))) ∧ (w'.heap[s_.2.2.1]? = some (.cells #[.slice none 0 0, .slice none 0 0] 25 (0, 0))) ∧ (w'.heap[s_.2.2.2.1]? = some (.cells #[.string (⟨#[]⟩ : ByteArray), .string (⟨#[]⟩ : ByteArray)] 27 (0, 0))) ∧ (w'.heap[s_.2.2.2.2]? = some (.cells #[.string (⟨#[]⟩ : ByteArray), .string (⟨#[]⟩ : ByteArray)] 27 (0, 0))) ∧ (w.heap.size ≤ s_.2.2.1) ∧ (w.heap.size ≤ s_.2.2.1) ∧ (ab ≠ s_.2.2.1) ∧ (s_.2.2.1 ≠ ab) ∧ (s_.2.2.2.1 ≠ s_.2.2.1) ∧ (s_.2.2.1 ≠ s_.2.2.2.1) ∧ (s_.2.2.2.2 ≠ s_.2.2.1) ∧ (s_.2.2.1 ≠ s_.2.2.2.2) ∧ (w.heap.size ≤ s_.2.2.2.1) ∧ (w.heap.size ≤ s_.2.2.2.1) ∧ (ab ≠ s_.2.2.2.1) ∧ (s_.2.2.2.1 ≠ ab) ∧ (s_.2.2.2.2 ≠ s_.2.2.2.1) ∧ (s_.2.2.2.1 ≠ s_.2.2.2.2) ∧ (w.heap.size ≤ s_.2.2.2.2) ∧ (w.heap.size ≤ s_.2.2.2.2) ∧ (ab ≠ s_.2.2.2.2) ∧ (s_.2.2.2.2 ≠ ab) ∧ (Below w.heap.size w w')) ?_ ?_
 intro hJ2_5_11_12_13
 refine jT (σ := Value × Value × Nat) 6 (bA 18 4095) (fun s_ => [(23, .agg #[s_.1, s_.2.1]), (26, .agg #[.string aB, .string aC]), (29, .agg #[.string aP, .string aQ]), (3, .pointer (some ⟨s_.2.2, 0, none⟩))]) (fun s_ w' => (w'.cell? ⟨ab, 0, none⟩ = some (.slice aD l0_0.length aE) ∧ w'.cell? ⟨ab, 1, none⟩ = some (.slice aF l0_1.length aG) ∧ w'.cell? ⟨ab, 2, none⟩ = some (.string a0_2) ∧ w'.cell? ⟨ab, 3, none⟩ = some (.string a0_3) ∧ w'.cell? ⟨ab, 4, none⟩ = some (.string a0_4) ∧ w'.cell? ⟨ab, 5, none⟩ = some (.string a0_5) ∧ w'.cell? ⟨ab, 6, none⟩ = some (.string a0_6)) ∧ (Kd.R k27 27 w' w.heap.size (fun _ => True) s_.1 az) ∧ (Kd.R Kd.string 9 w' w.heap.size (fun _ => True) s_.2.1 aA) ∧ (w'.heap[ab]? = some (.cells #[.slice aD l0_0.length aE, .slice aF l0_1.length aG, .string a0_2, .string a0_3, .string a0_4, .string a0_5, .string a0_6] 29 (0, 0))) ∧ (w'.heap[s_.2.2]? = some (.cells #[.slice none 0 0, .slice none 0 0] 25 (0, 0))) ∧ (w.heap.size ≤ s_.2.2) ∧ (w.heap.size ≤ s_.2.2) ∧ (ab ≠ s_.2.2) ∧ (s_.2.2 ≠ ab) ∧ (Below w.heap.size w w')) ?_ ?_
 intro hJ2_5_8_11
 refine jT (σ := Value × Value × Nat) 6 (bA 18 6143) (fun s_ => [(23, .agg #[s_.1, s_.2.1]), (26, .agg #[.string aB, .string aC]), (29, .agg #[.string aP, .string aQ]), (4, .pointer (some ⟨s_.2.2, 0, none⟩))]) (fun s_ w' => (w'.cell? ⟨ab, 0, none⟩ = some (.slice aD l0_0.length aE) ∧ w'.cell? ⟨ab, 1, none⟩ = some (.slice aF l0_1.length aG) ∧ w'.cell? ⟨ab, 2, none⟩ = some (.string a0_2) ∧ w'.cell? ⟨ab, 3, none⟩ = some (.string a0_3) ∧ w'.cell? ⟨ab, 4, none⟩ = some (.string a0_4) ∧ w'.cell? ⟨ab, 5, none⟩ = some (.string a0_5) ∧ w'.cell? ⟨ab, 6, none⟩ = some (.string a0_6)) ∧ (Kd.R k27 27 w' w.heap.size (fun k_ => k_ ≠ s_.2.2) s_.1 az) ∧ (Kd.R Kd.string 9 w' w.heap.size (fun _ => True) s_.2.1 aA) ∧ (w'.heap[ab]? = some (.cells #[.slice aD l0_0.length aE, .slice aF l0_1.length aG, .string a0_2, .string a0_3, .string a0_4, .string a0_5, .string a0_6] 29 (0, 0))) ∧ (w'.heap[s_.2.2]? = some (.cells #[.string (⟨#[]⟩ : ByteArray), .string (⟨#[]⟩ : ByteArray)] 27 (0, 0))) ∧ (w.heap.size ≤ s_.2.2) ∧ (w.heap.size ≤ s_.2.2) ∧ (ab ≠ s_.2.2) ∧ (s_.2.2 ≠ ab) ∧ (Below w.heap.size w w')) ?_ ?_
 intro hJ2_5_8_12
 refine jT (σ := Value × Value × Nat) 6 (bA 18 10239) (fun s_ => [(23, .agg #[s_.1, s_.2.1]), (26, .agg #[.string aB, .string aC]), (29, .agg #[.string aP, .string aQ]), (5, .pointer (some ⟨s_.2.2, 0, none⟩))]) (fun s_ w' => (w'.cell? ⟨ab, 0, none⟩ = some (.slice aD l0_0.length aE) ∧ w'.cell? ⟨ab, 1, none⟩ = some (.slice aF l0_1.length aG) ∧ w'.cell? ⟨ab, 2, none⟩ = some (.string a0_2) ∧ w'.cell? ⟨ab, 3, none⟩ = some (.string a0_3) ∧ w'.cell? ⟨ab, 4, none⟩ = some (.string a0_4) ∧ w'.cell? ⟨ab, 5, none⟩ = some (.string a0_5) ∧ w'.cell? ⟨ab, 6, none⟩ = some (.string a0_6)) ∧ (Kd.R k27 27 w' w.heap.size (fun k_ => k_ ≠ s_.2.2) s_.1 az) ∧ (Kd.R Kd.string 9 w' w.heap.size (fun _ => True) s_.2.1 aA) ∧ (w'.heap[ab]? = some (.cells #[.slice aD l0_0.length aE, .slice aF l0_1.length aG, .string a0_2, .string a0_3, .string a0_4, .string a0_5, .string a0_6] 29 (0, 0))) ∧ (w'.heap[s_.2.2]? = some (.cells #[.string (⟨#[]⟩ : ByteArray), .string (⟨#[]⟩ : ByteArray)] 27 (0, 0))) ∧ (w.heap.size ≤ s_.2.2) ∧ (w.heap.size ≤ s_.2.2) ∧ (ab ≠ s_.2.2) ∧ (s_.2.2 ≠ ab) ∧ (Below w.heap.size w w')) ?_ ?_
 intro hJ2_5_8_13
 refine jT (σ := Value × Value × Nat × Nat) 6 (bA 18 7935) (fun s_ => [(23, .agg #[s_.1, s_.2.1]), (26, .agg #[.string aB, .string aC]), (3, .pointer (some ⟨s_.2.2.1, 0, none⟩)), (4, .pointer (some ⟨s_.2.2.2, 0, none⟩))]) (fun s_ w' => (w'.cell? ⟨ab, 0, none⟩ = some (.slice aD l0_0.length aE) ∧ w'.cell? ⟨ab, 1, none⟩ = some (.slice aF l0_1.length aG) ∧ w'.cell? ⟨ab, 2, none⟩ = some (.string a0_2) ∧ w'.cell? ⟨ab, 3, none⟩ = some (.string a0_3) ∧ w'.cell? ⟨ab, 4, none⟩ = some (.string a0_4) ∧ w'.cell? ⟨ab, 5, none⟩ = some (.string a0_5) ∧ w'.cell? ⟨ab, 6, none⟩ = some (.string a0_6)) ∧ (Kd.R k27 27 w' w.heap.size (fun k_ => k_ ≠ s_.2.2.2) s_.1 az) ∧ (Kd.R Kd.string 9 w' w.heap.size (fun _ => True) s_.2.1 aA) ∧ (w'.heap[ab]? = some (.cells #[.slice aD l0_0.length aE, .slice aF l0_1.length aG, .string a0_2, .string a0_3, .string a0_4, .string a0_5, .string a0_6] 29 (0, 0))) ∧ (w'.heap[s_.2.2.1]? = some (.cells #[.slice none 0 0, .slice none 0 0] 25 (0, 0))) ∧ (w'.heap[s_.2.2.2]? = some (.cells #[.string (⟨#[]⟩ : ByteArray), .string (⟨#[]⟩ : ByteArray)] 27 (0, 0))) ∧ (w.heap.size ≤ s_.2.2.1) ∧ (w.heap.size ≤ s_.2.2.1) ∧ (ab ≠ s_.2.2.1) ∧ (s_.2.2.1 ≠ ab) ∧ (s_.2.2.2 ≠ s_.2.2.1) ∧ (s_.2.2.1 ≠ s_.2.2.2) ∧ (w.heap.size ≤ s_.2.2.2) ∧ (w.heap.size ≤ s_.2.2.2) ∧ (ab ≠ s_.2.2.2) ∧ (s_.2.2.2 ≠ ab) ∧ (Below w.heap.size w w')) ?_ ?_
 intro hJ2_5_11_12
 refine jT (σ := Value × Value × Nat × Nat) 6 (bA 18 12031) (fun s_ => [(23, .agg #[s_.1, s_.2.1]), (26, .agg #[.string aB, .string aC]), (3, .pointer (some ⟨s_.2.2.1, 0, none⟩)), (5, .pointer (some ⟨s_.2.2.2, 0, none⟩))]) (fun s_ w' => (w'.cell? ⟨ab, 0, none⟩ = some (.slice aD l0_0.length aE) ∧ w'.cell? ⟨ab, 1, none⟩ = some (.slice aF l0_1.length aG) ∧ w'.cell? ⟨ab, 2, none⟩ = some (.string a0_2) ∧ w'.cell? ⟨ab, 3, none⟩ = some (.string a0_3) ∧ w'.cell? ⟨ab, 4, none⟩ = some (.string a0_4) ∧ w'.cell? ⟨ab, 5, none⟩ = some (.string a0_5) ∧ w'.cell? ⟨ab, 6, none⟩ = some (.string a0_6)) ∧ (Kd.R k27 27 w' w.heap.size (fun k_ => k_ ≠ s_.2.2.2) s_.1 az) ∧ (Kd.R Kd.string 9 w' w.heap.size (fun _ => True) s_.2.1 aA) ∧ (w'.heap[ab]? = some (.cells #[.slice aD l0_0.length aE, .slice aF l0_1.length aG, .string a0_2, .string a0_3, .string a0_4, .string a0_5, .string a0_6] 29 (0, 0))) ∧ (w'.heap[s_.2.2.1]? = some (.cells #[.slice none 0 0, .slice none 0 0] 25 (0, 0))) ∧ (w'.heap[s_.2.2.2]? = some (.cells #[.string (⟨#[]⟩ : ByteArray), .string (⟨#[]⟩ : ByteArray)] 27 (0, 0))) ∧ (w.heap.size ≤ s_.2.2.1) ∧ (w.heap.size ≤ s_.2.2.1) ∧ (ab ≠ s_.2.2.1) ∧ (s_.2.2.1 ≠ ab) ∧ (s_.2.2.2 ≠ s_.2.2.1) ∧ (s_.2.2.1 ≠ s_.2.2.2) ∧ (w.heap.size ≤ s_.2.2.2) ∧ (w.heap.size ≤ s_.2.2.2) ∧ (ab ≠ s_.2.2.2) ∧ (s_.2.2.2 ≠ ab) ∧ (Below w.heap.size w w')) ?_ ?_
 intro hJ2_5_11_13
 refine jT (σ := Value × Value × Nat × Nat) 6 (bA 18 14079) (fun s_ => [(23, .agg #[s_.1, s_.2.1]), (26, .agg #[.string aB, .string aC]), (4, .pointer (some ⟨s_.2.2.1, 0, none⟩)), (5, .pointer (some ⟨s_.2.2.2, 0, none⟩))]) (fun s_ w' => (w'.cell? ⟨ab, 0, none⟩ = some (.slice aD l0_0.length aE) ∧ w'.cell? ⟨ab, 1, none⟩ = some (.slice aF l0_1.length aG) ∧ w'.cell? ⟨ab, 2, none⟩ = some (.string a0_2) ∧ w'.cell? ⟨ab, 3, none⟩ = some (.string a0_3) ∧ w'.cell? ⟨ab, 4, none⟩ = some (.string a0_4) ∧ w'.cell? ⟨ab, 5, none⟩ = some (.string a0_5) ∧ w'.cell? ⟨ab, 6, none⟩ = some (.string a0_6)) ∧ (Kd.R k27 27 w' w.heap.size (fun k_ => k_ ≠ s_.2.2.1 ∧ k_ ≠ s_.2.2.2) s_.1 az) ∧ (Kd.R Kd.string 9 w' w.heap.size (fun _ => True) s_.2.1 aA) ∧ (w'.heap[ab]? = some (.cells #[.slice aD l0_0.length aE, .slice aF l0_1.length aG, .string a0_2, .string a0_3, .string a0_4, .string a0_5, .string a0_6] 29 (0, 0))) ∧ (w'.heap[s_.2.2.1]? = some (.cells #[.string (⟨#[]⟩ : ByteArray), .string (⟨#[]⟩ : ByteArray)] 27 (0, 0))) ∧ (w'.heap[s_.2.2.2]? = some (.cells #[.string (⟨#[]⟩ : ByteArray), .string (⟨#[]⟩ : ByteArray)] 27 (0, 0))) ∧ (w.heap.size ≤ s_.2.2.1) ∧ (w.heap.size ≤ s_.2.2.1) ∧ (ab ≠ s_.2.2.1) ∧ (s_.2.2.1 ≠ ab) ∧ (s_.2.2.2 ≠ s_.2.2.1) ∧ (s_.2.2.1 ≠ s_.2.2.2) ∧ (w.heap.size ≤ s_.2.2.2) ∧ (w.heap.size ≤ s_.2.2.2) ∧ (ab ≠ s_.2.2.2) ∧ (s_.2.2.2 ≠ ab) ∧ (Below w.heap.size w w')) ?_ ?_
 intro hJ2_5_12_13
 refine jT (σ := Value × Value × Nat × Nat × Nat) 6 (bA 18 16095) (fun s_ => [(23, .agg #[s_.1, s_.2.1]), (3, .pointer (some ⟨s_.2.2.1, 0, none⟩)), (4, .pointer (some ⟨s_.2.2.2.1, 0, none⟩)), (5, .pointer (some ⟨s_.2.2.2.2, 0, none⟩))]) (fun s_ w' => (w'.cell? ⟨ab, 0, none⟩ = some (.slice aD l0_0.length aE) ∧ w'.cell? ⟨ab, 1, none⟩ = some (.slice aF l0_1.length aG) ∧ w'.cell? ⟨ab, 2, none⟩ = some (.string a0_2) ∧ w'.cell? ⟨ab, 3, none⟩ = some (.string a0_3) ∧ w'.cell? ⟨ab, 4, none⟩ = some (.string a0_4) ∧ w'.cell? ⟨ab, 5, none⟩ = some (.string a0_5) ∧ w'.cell? ⟨ab, 6, none⟩ = some (.string a0_6)) ∧ (Kd.R k27 27 w' w.heap.size (fun k_ => k_ ≠ s_.2.2.2.1 ∧ k_ ≠ s_.2.2.2.2) s_.1 az) ∧ (Kd.R Kd.string 9 w' w.heap.size (fun _ => True) s_.2.1 aA) ∧ (w'.heap[ab]? = some (.cells #[.slice aD l0_0.length aE, .slice aF l0_1.length aG, .string a0_2, .string a0_3, .string a0_4, .string a0_5, .string a0_6] 29 (0, 0))) ∧ (w'.heap[s_.2.2.1]? = some (.cells #[.slice none 0 0, .slice none 0 0] 25 (0, 0))) ∧ (w'.heap[s_.2.2.2.1]? = some (.cells #[.string (⟨#[]⟩ : ByteArray), .string (⟨#[]⟩ : ByteArray)] 27 (0, 0))) ∧ (w'.heap[s_.2.2.2.2]? = some (.cells #[.string (⟨#[]⟩ : ByteArray), .string (⟨#[]⟩ : ByteArray)] 27 (0, 0))) ∧ (w.heap.size ≤ s_.2.2.1) ∧ (w.heap.size ≤ s_.2.2.1) ∧ (ab ≠ s_.2.2.1) ∧ (s_.2.2.1 ≠ ab) ∧ (s_.2.2.2.1 ≠ s_.2.2.1) ∧ (s_.2.2.1 ≠ s_.2.2.2.1) ∧ (s_.2.2.2.2 ≠ s_.2.2.1) ∧ (s_.2.2.1 ≠ s_.2.2.2.2) ∧ (w.heap.size ≤ s_.2.2.2.1) ∧ (w.heap.size ≤ s_.2.2.2.1) ∧ (ab ≠ s_.2.2.2.1) ∧ (s_.2.2.2.1 ≠ ab) ∧ (s_.2.2.2.2 ≠ s_.2.2.2.1) ∧ (s_.2.2.2.1 ≠ s_.2.2.2.2) ∧ (w.heap.size ≤ s_.2.2.2.2) ∧ (w.heap.size ≤ s_.2.2.2.2) ∧ (ab ≠ s_.2.2.2.2) ∧ (s_.2.2.2.2 ≠ ab) ∧ (Below w.heap.size w w')) ?_ ?_
 intro hJ2_11_12_13
 refine jT (σ := Value × Value) 7 (bA 18 2047) (fun s_ => [(23, .agg #[s_.1, s_.2]), (26, .agg #[.string aB, .string aC]), (29, .agg #[.string aP, .string aQ])]) (fun s_ w' => (w'.cell? ⟨ab, 0, none⟩ = some (.slice aD l0_0.length aE) ∧ w'.cell? ⟨ab, 1, none⟩ = some (.slice aF l0_1.length aG) ∧ w'.cell? ⟨ab, 2, none⟩ = some (.string a0_2) ∧ w'.cell? ⟨ab, 3, none⟩ = some (.string a0_3) ∧ w'.cell? ⟨ab, 4, none⟩ = some (.string a0_4) ∧ w'.cell? ⟨ab, 5, none⟩ = some (.string a0_5) ∧ w'.cell? ⟨ab, 6, none⟩ = some (.string a0_6)) ∧ (Kd.R k27 27 w' w.heap.size (fun _ => True) s_.1 az) ∧ (Kd.R Kd.string 9 w' w.heap.size (fun _ => True) s_.2 aA) ∧ (w'.heap[ab]? = some (.cells #[.slice aD l0_0.length aE, .slice aF l0_1.length aG, .string a0_2, .string a0_3, .string a0_4, .string a0_5, .string a0_6] 29 (0, 0))) ∧ (Below w.heap.size w w')) ?_ ?_
 intro hJ2_5_8
 refine jT (σ := Value × Value × Nat) 7 (bA 18 3839) (fun s_ => [(23, .agg #[s_.1, s_.2.1]), (26, .agg #[.string aB, .string aC]), (3, .pointer (some ⟨s_.2.2, 0, none⟩))]) (fun s_ w' => (w'.cell? ⟨ab, 0, none⟩ = some (.slice aD l0_0.length aE) ∧ w'.cell? ⟨ab, 1, none⟩ = some (.slice aF l0_1.length aG) ∧ w'.cell? ⟨ab, 2, none⟩ = some (.string a0_2) ∧ w'.cell? ⟨ab, 3, none⟩ = some (.string a0_3) ∧ w'.cell? ⟨ab, 4, none⟩ = some (.string a0_4) ∧ w'.cell? ⟨ab, 5, none⟩ = some (.string a0_5) ∧ w'.cell? ⟨ab, 6, none⟩ = some (.string a0_6)) ∧ (Kd.R k27 27 w' w.heap.size (fun _ => True) s_.1 az) ∧ (Kd.R Kd.string 9 w' w.heap.size (fun _ => True) s_.2.1 aA) ∧ (w'.heap[ab]? = some (.cells #[.slice aD l0_0.length aE, .slice aF l0_1.length aG, .string a0_2, .string a0_3, .string a0_4, .string a0_5, .string a0_6] 29 (0, 0))) ∧ (w'.heap[s_.2.2]? = some (.cells #[.slice none 0 0, .slice none 0 0] 25 (0, 0))) ∧ (w.heap.size ≤ s_.2.2) ∧ (w.heap.size ≤ s_.2.2) ∧ (ab ≠ s_.2.2) ∧ (s_.2.2 ≠ ab) ∧ (Below w.heap.size w w')) ?_ ?_
 intro hJ2_5_11
 refine jT (σ := Value × Value × Nat) 7 (bA 18 5887) (fun s_ => [(23, .agg #[s_.1, s_.2.1]), (26, .agg #[.string aB, .string aC]), (4, .pointer (some ⟨s_.2.2, 0, none⟩))]) (fun s_ w' => (w'.cell? ⟨ab, 0, none⟩ = some (.slice aD l0_0.length aE) ∧ w'.cell? ⟨ab, 1, none⟩ = some (.slice aF l0_1.length aG) ∧ w'.cell? ⟨ab, 2, none⟩ = some (.string a0_2) ∧ w'.cell? ⟨ab, 3, none⟩ = some (.string a0_3) ∧ w'.cell? ⟨ab, 4, none⟩ = some (.string a0_4) ∧ w'.cell? ⟨ab, 5, none⟩ = some (.string a0_5) ∧ w'.cell? ⟨ab, 6, none⟩ = some (.string a0_6)) ∧ (Kd.R k27 27 w' w.heap.size (fun k_ => k_ ≠ s_.2.2) s_.1 az) ∧ (Kd.R Kd.string 9 w' w.heap.size (fun _ => True) s_.2.1 aA) ∧ (w'.heap[ab]? = some (.cells #[.slice aD l0_0.length aE, .slice aF l0_1.length aG, .string a0_2, .string a0_3, .string a0_4, .string a0_5, .string a0_6] 29 (0, 0))) ∧ (w'.heap[s_.2.2]? = some (.cells #[.string (⟨#[]⟩ : ByteArray), .string (⟨#[]⟩ : ByteArray)] 27 (0, 0))) ∧ (w.heap.size ≤ s_.2.2) ∧ (w.heap.size ≤ s_.2.2) ∧ (ab ≠ s_.2.2) ∧ (s_.2.2 ≠ ab) ∧ (Below w.heap.size w w')) ?_ ?_
 intro hJ2_5_12
 refine jT (σ := Value × Value × Nat) 7 (bA 18 9983) (fun s_ => [(23, .agg #[s_.1, s_.2.1]), (26, .agg #[.string aB, .string aC]), (5, .pointer (some ⟨s_.2.2, 0, none⟩))]) (fun s_ w' => (w'.cell? ⟨ab, 0, none⟩ = some (.slice aD l0_0.length aE) ∧ w'.cell? ⟨ab, 1, none⟩ = some (.slice aF l0_1.length aG) ∧ w'.cell? ⟨ab, 2, none⟩ = some (.string a0_2) ∧ w'.cell? ⟨ab, 3, none⟩ = some (.string a0_3) ∧ w'.cell? ⟨ab, 4, none⟩ = some (.string a0_4) ∧ w'.cell? ⟨ab, 5, none⟩ = some (.string a0_5) ∧ w'.cell? ⟨ab, 6, none⟩ = some (.string a0_6)) ∧ (Kd.R k27 27 w' w.heap.size (fun k_ => k_ ≠ s_.2.2) s_.1 az) ∧ (Kd.R Kd.string 9 w' w.heap.size (fun _ => True) s_.2.1 aA) ∧ (w'.heap[ab]? = some (.cells #[.slice aD l0_0.length aE, .slice aF l0_1.length aG, .string a0_2, .string a0_3, .string a0_4, .string a0_5, .string a0_6] 29 (0, 0))) ∧ (w'.heap[s_.2.2]? = some (.cells #[.string (⟨#[]⟩ : ByteArray), .string (⟨#[]⟩ : ByteArray)] 27 (0, 0))) ∧ (w.heap.size ≤ s_.2.2) ∧ (w.heap.size ≤ s_.2.2) ∧ (ab ≠ s_.2.2) ∧ (s_.2.2 ≠ ab) ∧ (Below w.heap.size w w')) ?_ ?_
 intro hJ2_5_13
 refine jT (σ := Value × Value × Nat × Nat) 7 (bA 18 7903) (fun s_ => [(23, .agg #[s_.1, s_.2.1]), (3, .pointer (some ⟨s_.2.2.1, 0, none⟩)), (4, .pointer (some ⟨s_.2.2.2, 0, none⟩))]) (fun s_ w' => (w'.cell? ⟨ab, 0, none⟩ = some (.slice aD l0_0.length aE) ∧ w'.cell? ⟨ab, 1, none⟩ = some (.slice aF l0_1.length aG) ∧ w'.cell? ⟨ab, 2, none⟩ = some (.string a0_2) ∧ w'.cell? ⟨ab, 3, none⟩ = some (.string a0_3) ∧ w'.cell? ⟨ab, 4, none⟩ = some (.string a0_4) ∧ w'.cell? ⟨ab, 5, none⟩ = some (.string a0_5) ∧ w'.cell? ⟨ab, 6, none⟩ = some (.string a0_6)) ∧ (Kd.R k27 27 w' w.heap.size (fun k_ => k_ ≠ s_.2.2.2) s_.1 az) ∧ (Kd.R Kd.string 9 w' w.heap.size (fun _ => True) s_.2.1 aA) ∧ (w'.heap[ab]? = some (.cells #[.slice aD l0_0.length aE, .slice aF l0_1.length aG, .string a0_2, .string a0_3, .string a0_4, .string a0_5, .string a0_6] 29 (0, 0))) ∧ (w'.heap[s_.2.2.1]? = some (.cells #[.slice none 0 0, .slice none 0 0] 25 (0, 0))) ∧ (w'.heap[s_.2.2.2]? = some (.cells #[.string (⟨#[]⟩ : ByteArray), .string (⟨#[]⟩ : ByteArray)] 27 (0, 0))) ∧ (w.heap.size ≤ s_.2.2.1) ∧ (w.heap.size ≤ s_.2.2.1) ∧ (ab ≠ s_.2.2.1) ∧ (s_.2.2.1 ≠ ab) ∧ (s_.2.2.2 ≠ s_.2.2.1) ∧ (s_.2.2.1 ≠ s_.2.2.2) ∧ (w.heap.size ≤ s_.2.2.2) ∧ (w.heap.size ≤ s_.2.2.2) ∧ (ab ≠ s_.2.2.2) ∧ (s_.2.2.2 ≠ ab) ∧ (Below w.heap.size w w')) ?_ ?_
 intro hJ2_11_12
 refine jT (σ := Value × Value × Nat × Nat) 7 (bA 18 11999) (fun s_ => [(23, .agg #[s_.1, s_.2.1]), (3, .pointer (some ⟨s_.2.2.1, 0, none⟩)), (5, .pointer (some ⟨s_.2.2.2, 0, none⟩))]) (fun s_ w' => (w'.cell? ⟨ab, 0, none⟩ = some (.slice aD l0_0.length aE) ∧ w'.cell? ⟨ab, 1, none⟩ = some (.slice aF l0_1.length aG) ∧ w'.cell? ⟨ab, 2, none⟩ = some (.string a0_2) ∧ w'.cell? ⟨ab, 3, none⟩ = some (.string a0_3) ∧ w'.cell? ⟨ab, 4, none⟩ = some (.string a0_4) ∧ w'.cell? ⟨ab, 5, none⟩ = some (.string a0_5) ∧ w'.cell? ⟨ab, 6, none⟩ = some (.string a0_6)) ∧ (Kd.R k27 27 w' w.heap.size (fun k_ => k_ ≠ s_.2.2.2) s_.1 az) ∧ (Kd.R Kd.string 9 w' w.heap.size (fun _ => True) s_.2.1 aA) ∧ (w'.heap[ab]? = some (.cells #[.slice aD l0_0.length aE, .slice aF l0_1.length aG, .string a0_2, .string a0_3, .string a0_4, .string a0_5, .string a0_6] 29 (0, 0))) ∧ (w'.heap[s_.2.2.1]? = some (.cells #[.slice none 0 0, .slice none 0 0] 25 (0, 0))) ∧ (w'.heap[s_.2.2.2]? = some (.cells #[.string (⟨#[]⟩ : ByteArray), .string (⟨#[]⟩ : ByteArray)] 27 (0, 0))) ∧ (w.heap.size ≤ s_.2.2.1) ∧ (w.heap.size ≤ s_.2.2.1) ∧ (ab ≠ s_.2.2.1) ∧ (s_.2.2.1 ≠ ab) ∧ (s_.2.2.2 ≠ s_.2.2.1) ∧ (s_.2.2.1 ≠ s_.2.2.2) ∧ (w.heap.size ≤ s_.2.2.2) ∧ (w.heap.size ≤ s_.2.2.2) ∧ (ab ≠ s_.2.2.2) ∧ (s_.2.2.2 ≠ ab) ∧ (Below w.heap.size w w')) ?_ ?_
 intro hJ2_11_13
 refine jT (σ := Value × Value × Nat × Nat) 7 (bA 18 14047) (fun s_ => [(23, .agg #[s_.1, s_.2.1]), (4, .pointer (some ⟨s_.2.2.1, 0, none⟩)), (5, .pointer (some ⟨s_.2.2.2, 0, none⟩))]) (fun s_ w' => (w'.cell? ⟨ab, 0, none⟩ = some (.slice aD l0_0.length aE) ∧ w'.cell? ⟨ab, 1, none⟩ = some (.slice aF l0_1.length aG) ∧ w'.cell? ⟨ab, 2, none⟩ = some (.string a0_2) ∧ w'.cell? ⟨ab, 3, none⟩ = some (.string a0_3) ∧ w'.cell? ⟨ab, 4, none⟩ = some (.string a0_4) ∧ w'.cell? ⟨ab, 5, none⟩ = some (.string a0_5) ∧ w'.cell? ⟨ab, 6, none⟩ = some (.string a0_6)) ∧ (Kd.R k27 27 w' w.heap.size (fun k_ => k_ ≠ s_.2.2.1 ∧ k_ ≠ s_.2.2.2) s_.1 az) ∧ (Kd.R Kd.string 9 w' w.heap.size (fun _ => True) s_.2.1 aA) ∧ (w'.heap[ab]? = some (.cells #[.slice aD l0_0.length aE, .slice aF l0_1.length aG, .string a0_2, .string a0_3, .string a0_4, .string a0_5, .string a0_6] 29 (0, 0))) ∧ (w'.heap[s_.2.2.1]? = some (.cells #[.string (⟨#[]⟩ : ByteArray), .string (⟨#[]⟩ : ByteArray)] 27 (0, 0))) ∧ (w'.heap[s_.2.2.2]? = some (.cells #[.string (⟨#[]⟩ : ByteArray), .string (⟨#[]⟩ : ByteArray)] 27 (0, 0))) ∧ (w.heap.size ≤ s_.2.2.1) ∧ (w.heap.size ≤ s_.2.2.1) ∧ (ab ≠ s_.2.2.1) ∧ (s_.2.2.1 ≠ ab) ∧ (s_.2.2.2 ≠ s_.2.2.1) ∧ (s_.2.2.1 ≠ s_.2.2.2) ∧ (w.heap.size ≤ s_.2.2.2) ∧ (w.heap.size ≤ s_.2.2.2) ∧ (ab ≠ s_.2.2.2) ∧ (s_.2.2.2 ≠ ab) ∧ (Below w.heap.size w w')) ?_ ?_
 intro hJ2_12_13
 refine jT (σ := Nat × Nat × Nat) 7 (bA 18 16091) (fun s_ => [(3, .pointer (some ⟨s_.1, 0, none⟩)), (4, .pointer (some ⟨s_.2.1, 0, none⟩)), (5, .pointer (some ⟨s_.2.2, 0, none⟩))]) (fun s_ w' => (w'.cell? ⟨ab, 0, none⟩ = some (.slice aD l0_0.length aE) ∧ w'.cell? ⟨ab, 1, none⟩ = some (.slice aF l0_1.length aG) ∧ w'.cell? ⟨ab, 2, none⟩ = some (.string a0_2) ∧ w'.cell? ⟨ab, 3, none⟩ = some (.string a0_3) ∧ w'.cell? ⟨ab, 4, none⟩ = some (.string a0_4) ∧ w'.cell? ⟨ab, 5, none⟩ = some (.string a0_5) ∧ w'.cell? ⟨ab, 6, none⟩ = some (.string a0_6)) ∧ (w'.heap[ab]? = some (.cells #[.slice aD l0_0.length aE, .slice aF l0_1.length aG, .string a0_2, .string a0_3, .string a0_4, .string a0_5, .string a0_6] 29 (0, 0))) ∧ (w'.heap[s_.1]? = some (.cells #[.slice none 0 0, .slice none 0 0] 25 (0, 0))) ∧ (w'.heap[s_.2.1]? = some (.cells #[.string (⟨#[]⟩ : ByteArray), .string (⟨#[]⟩ : ByteArray)] 27 (0, 0))) ∧ (w'.heap[s_.2.2]? = some (.cells #[.string (⟨#[]⟩ : ByteArray), .string (⟨#[]⟩ : ByteArray)] 27 (0, 0))) ∧ (w.heap.size ≤ s_.1) ∧ (w.heap.size ≤ s_.1) ∧ (ab ≠ s_.1) ∧ (s_.1 ≠ ab) ∧ (s_.2.1 ≠ s_.1) ∧ (s_.1 ≠ s_.2.1) ∧ (s_.2.2 ≠ s_.1) ∧ (s_.1 ≠ s_.2.2) ∧ (w.heap.size ≤ s_.2.1) ∧ (w.heap.size ≤ s_.2.1) ∧ (ab ≠ s_.2.1) ∧ (s_.2.1 ≠ ab) ∧ (s_.2.2 ≠ s_.2.1) ∧ (s_.2.1 ≠ s_.2.2) ∧ (w.heap.size ≤ s_.2.2) ∧ (w.heap.size ≤ s_.2.2) ∧ (ab ≠ s_.2.2) ∧ (s_.2.2 ≠ ab) ∧ (Below w.heap.size w w')) ?_ ?_
 intro hJ11_12_13
 refine jT (σ := Value × Value) 8 (bA 18 1791) (fun s_ => [(23, .agg #[s_.1, s_.2]), (26, .agg #[.string aB, .string aC])]) (fun s_ w' => (w'.cell? ⟨ab, 0, none⟩ = some (.slice aD l0_0.length aE) ∧ w'.cell? ⟨ab, 1, none⟩ = some (.slice aF l0_1.length aG) ∧ w'.cell? ⟨ab, 2, none⟩ = some (.string a0_2) ∧ w'.cell? ⟨ab, 3, none⟩ = some (.string a0_3) ∧ w'.cell? ⟨ab, 4, none⟩ = some (.string a0_4) ∧ w'.cell? ⟨ab, 5, none⟩ = some (.string a0_5) ∧ w'.cell? ⟨ab, 6, none⟩ = some (.string a0_6)) ∧ (Kd.R k27 27 w' w.heap.size (fun _ => True) s_.1 az) ∧ (Kd.R Kd.string 9 w' w.heap.size (fun _ => True) s_.2 aA) ∧ (w'.heap[ab]? = some (.cells #[.slice aD l0_0.length aE, .slice aF l0_1.length aG, .string a0_2, .string a0_3, .string a0_4, .string a0_5, .string a0_6] 29 (0, 0))) ∧ (Below w.heap.size w w')) ?_ ?_
 intro hJ2_5
 refine jT (σ := Value × Value × Nat) 8 (bA 18 3807) (fun s_ => [(23, .agg #[s_.1, s_.2.1]), (3, .pointer (some ⟨s_.2.2, 0, none⟩))]) (fun s_ w' => (w'.cell? ⟨ab, 0, none⟩ = some (.slice aD l0_0.length aE) ∧ w'.cell? ⟨ab, 1, none⟩ = some (.slice aF l0_1.length aG) ∧ w'.cell? ⟨ab, 2, none⟩ = some (.string a0_2) ∧ w'.cell? ⟨ab, 3, none⟩ = some (.string a0_3) ∧ w'.cell? ⟨ab, 4, none⟩ = some (.string a0_4) ∧ w'.cell? ⟨ab, 5, none⟩ = some (.string a0_5) ∧ w'.cell? ⟨ab, 6, none⟩ = some (.string a0_6)) ∧ (Kd.R k27 27 w' w.heap.size (fun _ => True) s_.1 az) ∧ (Kd.R Kd.string 9 w' w.heap.size (fun _ => True) s_.2.1 aA) ∧ (w'.heap[ab]? = some (.cells #[.slice aD l0_0.length aE, .slice aF l0_1.length aG, .string a0_2, .string a0_3, .string a0_4, .string a0_5, .string a0_6] 29 (0, 0))) ∧ (w'.heap[s_.2.2]? = some (.cells #[.slice none 0 0, .slice none 0 0] 25 (0, 0))) ∧ (w.heap.size ≤ s_.2.2) ∧ (w.heap.size ≤ s_.2.2) ∧ (ab ≠ s_.2.2) ∧ (s_.2.2 ≠ ab) ∧ (Below w.heap.size w w')) ?_ ?_
 intro hJ2_11
 refine jT (σ := Value × Value × Nat) 8 (bA 18 5855) (fun s_ => [(23, .agg #[s_.1, s_.2.1]), (4, .pointer (some ⟨s_.2.2, 0, none⟩))]) (fun s_ w' => (w'.cell? ⟨ab, 0, none⟩ = some (.slice aD l0_0.length aE) ∧ w'.cell? ⟨ab, 1, none⟩ = some (.slice aF l0_1.length aG) ∧ w'.cell? ⟨ab, 2, none⟩ = some (.string a0_2) ∧ w'.cell? ⟨ab, 3, none⟩ = some (.string a0_3) ∧ w'.cell? ⟨ab, 4, none⟩ = some (.string a0_4) ∧ w'.cell? ⟨ab, 5, none⟩ = some (.string a0_5) ∧ w'.cell? ⟨ab, 6, none⟩ = some (.string a0_6)) ∧ (Kd.R k27 27 w' w.heap.size (fun k_ => k_ ≠ s_.2.2) s_.1 az) ∧ (Kd.R Kd.string 9 w' w.heap.size (fun _ => True) s_.2.1 aA) ∧ (w'.heap[ab]? = some (.cells #[.slice aD l0_0.length aE, .slice aF l0_1.length aG, .string a0_2, .string a0_3, .string a0_4, .string a0_5, .string a0_6] 29 (0, 0))) ∧ (w'.heap[s_.2.2]? = some (.cells #[.string (⟨#[]⟩ : ByteArray), .string (⟨#[]⟩ : ByteArray)] 27 (0, 0))) ∧ (w.heap.size ≤ s_.2.2) ∧ (w.heap.size ≤ s_.2.2) ∧ (ab ≠ s_.2.2) ∧ (s_.2.2 ≠ ab) ∧ (Below w.heap.size w w')) ?_ ?_
 intro hJ2_12
 refine jT (σ := Value × Value × Nat) 8 (bA 18 9951) (fun s_ => [(23, .agg #[s_.1, s_.2.1]), (5, .pointer (some ⟨s_.2.2, 0, none⟩))]) (fun s_ w' => (w'.cell? ⟨ab, 0, none⟩ = some (.slice aD l0_0.length aE) ∧ w'.cell? ⟨ab, 1, none⟩ = some (.slice aF l0_1.length aG) ∧ w'.cell? ⟨ab, 2, none⟩ = some (.string a0_2) ∧ w'.cell? ⟨ab, 3, none⟩ = some (.string a0_3) ∧ w'.cell? ⟨ab, 4, none⟩ = some (.string a0_4) ∧ w'.cell? ⟨ab, 5, none⟩ = some (.string a0_5) ∧ w'.cell? ⟨ab, 6, none⟩ = some (.string a0_6)) ∧ (Kd.R k27 27 w' w.heap.size (fun k_ => k_ ≠ s_.2.2) s_.1 az) ∧ (Kd.R Kd.string 9 w' w.heap.size (fun _ => True) s_.2.1 aA) ∧ (w'.heap[ab]? = some (.cells #[.slice aD l0_0.length aE, .slice aF l0_1.length aG, .string a0_2, .string a0_3, .string a0_4, .string a0_5, .string a0_6] 29 (0, 0))) ∧ (w'.heap[s_.2.2]? = some (.cells #[.string (⟨#[]⟩ : ByteArray), .string (⟨#[]⟩ : ByteArray)] 27 (0, 0))) ∧ (w.heap.size ≤ s_.2.2) ∧ (w.heap.size ≤ s_.2.2) ∧ (ab ≠ s_.2.2) ∧ (s_.2.2 ≠ ab) ∧ (Below w.heap.size w w')) ?_ ?_
 intro hJ2_13
 refine jT (σ := Nat × Nat) 8 (bA 18 7899) (fun s_ => [(3, .pointer (some ⟨s_.1, 0, none⟩)), (4, .pointer (some ⟨s_.2, 0, none⟩))]) (fun s_ w' => (w'.cell? ⟨ab, 0, none⟩ = some (.slice aD l0_0.length aE) ∧ w'.cell? ⟨ab, 1, none⟩ = some (.slice aF l0_1.length aG) ∧ w'.cell? ⟨ab, 2, none⟩ = some (.string a0_2) ∧ w'.cell? ⟨ab, 3, none⟩ = some (.string a0_3) ∧ w'.cell? ⟨ab, 4, none⟩ = some (.string a0_4) ∧ w'.cell? ⟨ab, 5, none⟩ = some (.string a0_5) ∧ w'.cell? ⟨ab, 6, none⟩ = some (.string a0_6)) ∧ (w'.heap[ab]? = some (.cells #[.slice aD l0_0.length aE, .slice aF l0_1.length aG, .string a0_2, .string a0_3, .string a0_4, .string a0_5, .string a0_6] 29 (0, 0))) ∧ (w'.heap[s_.1]? = some (.cells #[.slice none 0 0, .slice none 0 0] 25 (0, 0))) ∧ (w'.heap[s_.2]? = some (.cells #[.string (⟨#[]⟩ : ByteArray), .string (⟨#[]⟩ : ByteArray)] 27 (0, 0))) ∧ (w.heap.size ≤ s_.1) ∧ (w.heap.size ≤ s_.1) ∧ (ab ≠ s_.1) ∧ (s_.1 ≠ ab) ∧ (s_.2 ≠ s_.1) ∧ (s_.1 ≠ s_.2) ∧ (w.heap.size ≤ s_.2) ∧ (w.heap.size ≤ s_.2) ∧ (ab ≠ s_.2) ∧ (s_.2 ≠ ab) ∧ (Below w.heap.size w w')) ?_ ?_
 intro hJ11_12
 refine jT (σ := Nat × Nat) 8 (bA 18 11995) (fun s_ => [(3, .pointer (some ⟨s_.1, 0, none⟩)), (5, .pointer (some ⟨s_.2, 0, none⟩))]) (fun s_ w' => (w'.cell? ⟨ab, 0, none⟩ = some (.slice aD l0_0.length aE) ∧ w'.cell? ⟨ab, 1, none⟩ = some (.slice aF l0_1.length aG) ∧ w'.cell? ⟨ab, 2, none⟩ = some (.string a0_2) ∧ w'.cell? ⟨ab, 3, none⟩ = some (.string a0_3) ∧ w'.cell? ⟨ab, 4, none⟩ = some (.string a0_4) ∧ w'.cell? ⟨ab, 5, none⟩ = some (.string a0_5) ∧ w'.cell? ⟨ab, 6, none⟩ = some (.string a0_6)) ∧ (w'.heap[ab]? = some (.cells #[.slice aD l0_0.length aE, .slice aF l0_1.length aG, .string a0_2, .string a0_3, .string a0_4, .string a0_5, .string a0_6] 29 (0, 0))) ∧ (w'.heap[s_.1]? = some (.cells #[.slice none 0 0, .slice none 0 0] 25 (0, 0))) ∧ (w'.heap[s_.2]? = some (.cells #[.string (⟨#[]⟩ : ByteArray), .string (⟨#[]⟩ : ByteArray)] 27 (0, 0))) ∧ (w.heap.size ≤ s_.1) ∧ (w.heap.size ≤ s_.1) ∧ (ab ≠ s_.1) ∧ (s_.1 ≠ ab) ∧ (s_.2 ≠ s_.1) ∧ (s_.1 ≠ s_.2) ∧ (w.heap.size ≤ s_.2) ∧ (w.heap.size ≤ s_.2) ∧ (ab ≠ s_.2) ∧ (s_.2 ≠ ab) ∧ (Below w.heap.size w w')) ?_ ?_
 intro hJ11_13
 refine jT (σ := Nat × Nat) 8 (bA 18 14043) (fun s_ => [(4, .pointer (some ⟨s_.1, 0, none⟩)), (5, .pointer (some ⟨s_.2, 0, none⟩))]) (fun s_ w' => (w'.cell? ⟨ab, 0, none⟩ = some (.slice aD l0_0.length aE) ∧ w'.cell? ⟨ab, 1, none⟩ = some (.slice aF l0_1.length aG) ∧ w'.cell? ⟨ab, 2, none⟩ = some (.string a0_2) ∧ w'.cell? ⟨ab, 3, none⟩ = some (.string a0_3) ∧ w'.cell? ⟨ab, 4, none⟩ = some (.string a0_4) ∧ w'.cell? ⟨ab, 5, none⟩ = some (.string a0_5) ∧ w'.cell? ⟨ab, 6, none⟩ = some (.string a0_6)) ∧ (w'.heap[ab]? = some (.cells #[.slice aD l0_0.length aE, .slice aF l0_1.length aG, .string a0_2, .string a0_3, .string a0_4, .string a0_5, .string a0_6] 29 (0, 0))) ∧ (w'.heap[s_.1]? = some (.cells #[.string (⟨#[]⟩ : ByteArray), .string (⟨#[]⟩ : ByteArray)] 27 (0, 0))) ∧ (w'.heap[s_.2]? = some (.cells #[.string (⟨#[]⟩ : ByteArray), .string (⟨#[]⟩ : ByteArray)] 27 (0, 0))) ∧ (w.heap.size ≤ s_.1) ∧ (w.heap.size ≤ s_.1) ∧ (ab ≠ s_.1) ∧ (s_.1 ≠ ab) ∧ (s_.2 ≠ s_.1) ∧ (s_.1 ≠ s_.2) ∧ (w.heap.size ≤ s_.2) ∧ (w.heap.size ≤ s_.2) ∧ (ab ≠ s_.2) ∧ (s_.2 ≠ ab) ∧ (Below w.heap.size w w')) ?_ ?_
 intro hJ12_13
 refine jT (σ := Value × Value) 9 (bA 18 1759) (fun s_ => [(23, .agg #[s_.1, s_.2])]) (fun s_ w' => (w'.cell? ⟨ab, 0, none⟩ = some (.slice aD l0_0.length aE) ∧ w'.cell? ⟨ab, 1, none⟩ = some (.slice aF l0_1.length aG) ∧ w'.cell? ⟨ab, 2, none⟩ = some (.string a0_2) ∧ w'.cell? ⟨ab, 3, none⟩ = some (.string a0_3) ∧ w'.cell? ⟨ab, 4, none⟩ = some (.string a0_4) ∧ w'.cell? ⟨ab, 5, none⟩ = some (.string a0_5) ∧ w'.cell? ⟨ab, 6, none⟩ = some (.string a0_6)) ∧ (Kd.R k27 27 w' w.heap.size (fun _ => True) s_.1 az) ∧ (Kd.R Kd.string 9 w' w.heap.size (fun _ => True) s_.2 aA) ∧ (w'.heap[ab]? = some (.cells #[.slice aD l0_0.length aE, .slice aF l0_1.length aG, .string a0_2, .string a0_3, .string a0_4, .string a0_5, .string a0_6] 29 (0, 0))) ∧ (Below w.heap.size w w')) ?_ ?_
 intro hJ2
 refine jT (σ := Nat) 9 (bA 18 3803) (fun s_ => [(3, .pointer (some ⟨s_, 0, none⟩))]) (fun s_ w' => (w'.cell? ⟨ab, 0, none⟩ = some (.slice aD l0_0.length aE) ∧ w'.cell? ⟨ab, 1, none⟩ = some (.slice aF l0_1.length aG) ∧ w'.cell? ⟨ab, 2, none⟩ = some (.string a0_2) ∧ w'.cell? ⟨ab, 3, none⟩ = some (.string a0_3) ∧ w'.cell? ⟨ab, 4, none⟩ = some (.string a0_4) ∧ w'.cell? ⟨ab, 5, none⟩ = some (.string a0_5) ∧ w'.cell? ⟨ab, 6, none⟩ = some (.string a0_6)) ∧ (w'.heap[ab]? = some (.cells #[.slice aD l0_0.length aE, .slice aF l0_1.length aG, .string a0_2, .string a0_3, .string a0_4, .string a0_5, .string a0_6] 29 (0, 0))) ∧ (w'.heap[s_]? = some (.cells #[.slice none 0 0, .slice none 0 0] 25 (0, 0))) ∧ (w.heap.size ≤ s_) ∧ (w.heap.size ≤ s_) ∧ (ab ≠ s_) ∧ (s_ ≠ ab) ∧ (Below w.heap.size w w')) ?_ ?_
 intro hJ11
 refine jT (σ := Nat) 9 (bA 18 5851) (fun s_ => [(4, .pointer (some ⟨s_, 0, none⟩))]) (fun s_ w' => (w'.cell? ⟨ab, 0, none⟩ = some (.slice aD l0_0.length aE) ∧ w'.cell? ⟨ab, 1, none⟩ = some (.slice aF l0_1.length aG) ∧ w'.cell? ⟨ab, 2, none⟩ = some (.string a0_2) ∧ w'.cell? ⟨ab, 3, none⟩ = some (.string a0_3) ∧ w'.cell? ⟨ab, 4, none⟩ = some (.string a0_4) ∧ w'.cell? ⟨ab, 5, none⟩ = some (.string a0_5) ∧ w'.cell? ⟨ab, 6, none⟩ = some (.string a0_6)) ∧ (w'.heap[ab]? = some (.cells #[.slice aD l0_0.length aE, .slice aF l0_1.length aG, .string a0_2, .string a0_3, .string a0_4, .string a0_5, .string a0_6] 29 (0, 0))) ∧ (w'.heap[s_]? = some (.cells #[.string (⟨#[]⟩ : ByteArray), .string (⟨#[]⟩ : ByteArray)] 27 (0, 0))) ∧ (w.heap.size ≤ s_) ∧ (w.heap.size ≤ s_) ∧ (ab ≠ s_) ∧ (s_ ≠ ab) ∧ (Below w.heap.size w w')) ?_ ?_
 intro hJ12
 refine jT (σ := Nat) 9 (bA 18 9947) (fun s_ => [(5, .pointer (some ⟨s_, 0, none⟩))]) (fun s_ w' => (w'.cell? ⟨ab, 0, none⟩ = some (.slice aD l0_0.length aE) ∧ w'.cell? ⟨ab, 1, none⟩ = some (.slice aF l0_1.length aG) ∧ w'.cell? ⟨ab, 2, none⟩ = some (.string a0_2) ∧ w'.cell? ⟨ab, 3, none⟩ = some (.string a0_3) ∧ w'.cell? ⟨ab, 4, none⟩ = some (.string a0_4) ∧ w'.cell? ⟨ab, 5, none⟩ = some (.string a0_5) ∧ w'.cell? ⟨ab, 6, none⟩ = some (.string a0_6)) ∧ (w'.heap[ab]? = some (.cells #[.slice aD l0_0.length aE, .slice aF l0_1.length aG, .string a0_2, .string a0_3, .string a0_4, .string a0_5, .string a0_6] 29 (0, 0))) ∧ (w'.heap[s_]? = some (.cells #[.string (⟨#[]⟩ : ByteArray), .string (⟨#[]⟩ : ByteArray)] 27 (0, 0))) ∧ (w.heap.size ≤ s_) ∧ (w.heap.size ≤ s_) ∧ (ab ≠ s_) ∧ (s_ ≠ ab) ∧ (Below w.heap.size w w')) ?_ ?_
 intro hJ13
 refine four_ (i := 2) (j := 11) (k := 12) (m := 13) (Ni := some 23) (Nj := some 3) (Nk := some 4) (Nm := some 5) (bA 18 1759) (bA 18 3803) (bA 18 5851) (bA 18 9947) rfl rfl rfl rfl rfl rfl rfl rfl (four_of HT_.out (by kernel_rfl)) (by decide) (by decide) (by decide) (by decide) (fun K hK => ?_) (fun K hK => ?_) (fun K hK => ?_) (fun K hK => ?_)
 ·skip
  refine gS Tryd.func7 #[.agg #[.slice aD l0_0.length aE, .slice aF l0_1.length aG]] ?_
  with_reducible refine (graftwoodlaw12_Few.calls k _ _ l0_0 _ _ l0_1 az aA _ ?side1 ?side2 ?side3 ?side4 A2.out).mono ?_
  (case side1 => exact cW (Kd.C_below b2.out HB.out))
  (case side2 => exact b3.out)
  (case side3 => exact cW (Kd.C_below b4.out HB.out))
  (case side4 => exact b5.out)
  rintro e w13 ⟨aH, aI, rfl, ho0, ho1, hb⟩
  refine ⟨_, rfl, ?_⟩
  have aj := am (Kd.R_lower ho0 (below_size (eT HB.out)))
  have ak := am (Kd.R_lower ho1 (below_size (eT HB.out)))
  replace aa := am (bB aa.out hb)
  replace HB := am (sT HB.out hb)
  (try clear hb)
  (try clear hb2)
  (try clear hk)
  (try clear hi)
  (try clear ho0)
  (try clear ho1)
  refine hK.out _ _ ⟨cT aa 0, cT aa 1, cT aa 2, cT aa 3, cT aa 4, cT aa 5, cT aa 6⟩ (fun hHeld => ?_)
  clear hK K
  refine mN 23 ?_
  exact qN (hJ2 (aH, aI) _ ⟨hHeld, (rT aj.out), (rT ak.out), (bT aa.out), (eT HB.out)⟩)
 ·skip
  refine box_step ?hg (N := 3) ?hd (cs := #[.slice none 0 0, .slice none 0 0]) (t := 25) ?hr ?_; (case hd => rfl); (case hg => rfl); (case hr => first | (go_simp; done) | (go_simp; rfl))
  intro ae hg w13 hbox hb
  have af := am (hbox)
  have aJ := am ((gT hg HB.out))
  have aK := am ((gT hg HB.out))
  have al := am ((nT aa.out hg))
  have ap := am ((mT aa.out hg))
  replace aa := am (bB aa.out hb)
  replace HB := am (sT HB.out hb)
  clear hb hbox hg
  refine hK.out _ _ ⟨cT aa 0, cT aa 1, cT aa 2, cT aa 3, cT aa 4, cT aa 5, cT aa 6⟩ (fun hHeld => ?_)
  clear hK K
  refine mN 3 ?_
  exact qN (hJ11 (ae) _ ⟨hHeld, (bT aa.out), (bT af.out), aJ.out, aK.out, al.out, ap.out, (eT HB.out)⟩)
 ·skip
  refine box_step ?hg (N := 4) ?hd (cs := #[.string (⟨#[]⟩ : ByteArray), .string (⟨#[]⟩ : ByteArray)]) (t := 27) ?hr ?_; (case hd => rfl); (case hg => rfl); (case hr => first | (go_simp; done) | (go_simp; rfl))
  intro ac hg w13 hbox hb
  have ag := am (hbox)
  have aL := am ((gT hg HB.out))
  have aM := am ((gT hg HB.out))
  have ai := am ((nT aa.out hg))
  have ao := am ((mT aa.out hg))
  replace aa := am (bB aa.out hb)
  replace HB := am (sT HB.out hb)
  clear hb hbox hg
  refine hK.out _ _ ⟨cT aa 0, cT aa 1, cT aa 2, cT aa 3, cT aa 4, cT aa 5, cT aa 6⟩ (fun hHeld => ?_)
  clear hK K
  refine mN 4 ?_
  exact qN (hJ12 (ac) _ ⟨hHeld, (bT aa.out), (bT ag.out), aL.out, aM.out, ai.out, ao.out, (eT HB.out)⟩)
 ·skip
  refine box_step ?hg (N := 5) ?hd (cs := #[.string (⟨#[]⟩ : ByteArray), .string (⟨#[]⟩ : ByteArray)]) (t := 27) ?hr ?_; (case hd => rfl); (case hg => rfl); (case hr => first | (go_simp; done) | (go_simp; rfl))
  intro ad hg w13 hbox hb
  have ah := am (hbox)
  have aN := am ((gT hg HB.out))
  have aO := am ((gT hg HB.out))
  have an := am ((nT aa.out hg))
  have aq := am ((mT aa.out hg))
  replace aa := am (bB aa.out hb)
  replace HB := am (sT HB.out hb)
  clear hb hbox hg
  refine hK.out _ _ ⟨cT aa 0, cT aa 1, cT aa 2, cT aa 3, cT aa 4, cT aa 5, cT aa 6⟩ (fun hHeld => ?_)
  clear hK K
  refine mN 5 ?_
  exact qN (hJ13 (ad) _ ⟨hHeld, (bT aa.out), (bT ah.out), aN.out, aO.out, an.out, aq.out, (eT HB.out)⟩)
 ·as_aux_lemma =>
  skip
  rintro ad w14 ⟨hS_, h0_, h1_, h2_, h3_, h4_, h5_, h6_⟩
  replace aa : Aside0 (w14.heap[ab]? = some (.cells #[.slice aD l0_0.length aE, .slice aF l0_1.length aG, .string a0_2, .string a0_3, .string a0_4, .string a0_5, .string a0_6] 29 (0, 0))) := ⟨h0_⟩
  have ah : Aside0 (w14.heap[ad]? = some (.cells #[.string (⟨#[]⟩ : ByteArray), .string (⟨#[]⟩ : ByteArray)] 27 (0, 0))) := ⟨h1_⟩
  have aN : Aside0 (w.heap.size ≤ ad) := ⟨h2_⟩
  have aO : Aside0 (w.heap.size ≤ ad) := ⟨h3_⟩
  have an : Aside0 (ab ≠ ad) := ⟨h4_⟩
  have aq : Aside0 (ad ≠ ab) := ⟨h5_⟩
  replace HB : Aside0 (Below w.heap.size w w14) := ⟨h6_⟩
  clear h0_ h1_ h2_ h3_ h4_ h5_ h6_
  have hHeld := hS_
  (try dsimp only at hHeld)
  refine rN ?_
  refine eT3 (some 23) (some 3) (some 4) 2 11 12 (bA 18 9951) (bA 18 11995) (bA 18 14043) HT_.out (fun K hK => ?_) (fun K hK => ?_) (fun K hK => ?_)
  ·skip
   refine gS Tryd.func7 #[.agg #[.slice aD l0_0.length aE, .slice aF l0_1.length aG]] ?_
   with_reducible refine (graftwoodlaw12_Few.calls k _ _ l0_0 _ _ l0_1 az aA _ ?side1 ?side2 ?side3 ?side4 A2.out).mono ?_
   (case side1 => exact cW (Kd.C_below b2.out HB.out))
   (case side2 => exact b3.out)
   (case side3 => exact cW (Kd.C_below b4.out HB.out))
   (case side4 => exact b5.out)
   rintro e w15 ⟨aH, aI, rfl, ho0, ho1, hb⟩
   refine ⟨_, rfl, ?_⟩
   have aj := am (Kd.R_lower (Kd.R_newB ho0 (g := ad) (o := .cells #[.string (⟨#[]⟩ : ByteArray), .string (⟨#[]⟩ : ByteArray)] 27 (0, 0)) (bT ah.out)) (below_size (eT HB.out)))
   have ak := am (Kd.R_lower ho1 (below_size (eT HB.out)))
   replace aa := am (bB aa.out hb)
   replace ah := am (bB ah.out hb)
   replace HB := am (sT HB.out hb)
   (try clear hb)
   (try clear hb2)
   (try clear hk)
   (try clear hi)
   (try clear ho0)
   (try clear ho1)
   refine hK.out _ _ ⟨cT aa 0, cT aa 1, cT aa 2, cT aa 3, cT aa 4, cT aa 5, cT aa 6⟩ (fun hHeld => ?_)
   clear hK K
   refine mN 23 ?_
   exact qN (hJ2_13 (aH, aI, ad) _ ⟨hHeld, (by (with_reducible repeat (first | apply Kd.R_alloc | apply Kd.R_drewN | apply Kd.R_drew)); exact Kd.R_mono aj.out (fun _ hk => hk.2)), (rT ak.out), (bT aa.out), (bT ah.out), aN.out, aO.out, an.out, aq.out, (eT HB.out)⟩)
  ·skip
   refine box_step ?hg (N := 3) ?hd (cs := #[.slice none 0 0, .slice none 0 0]) (t := 25) ?hr ?_; (case hd => rfl); (case hg => rfl); (case hr => first | (go_simp; done) | (go_simp; rfl))
   intro ae hg w15 hbox hb
   have af := am (hbox)
   have aJ := am ((gT hg HB.out))
   have aK := am ((gT hg HB.out))
   have al := am ((nT aa.out hg))
   have ap := am ((mT aa.out hg))
   have ar := am ((nT ah.out hg))
   have au := am ((mT ah.out hg))
   replace aa := am (bB aa.out hb)
   replace ah := am (bB ah.out hb)
   replace HB := am (sT HB.out hb)
   clear hb hbox hg
   refine hK.out _ _ ⟨cT aa 0, cT aa 1, cT aa 2, cT aa 3, cT aa 4, cT aa 5, cT aa 6⟩ (fun hHeld => ?_)
   clear hK K
   refine mN 3 ?_
   exact qN (hJ11_13 (ae, ad) _ ⟨hHeld, (bT aa.out), (bT af.out), (bT ah.out), aJ.out, aK.out, al.out, ap.out, ar.out, au.out, aN.out, aO.out, an.out, aq.out, (eT HB.out)⟩)
  ·skip
   refine box_step ?hg (N := 4) ?hd (cs := #[.string (⟨#[]⟩ : ByteArray), .string (⟨#[]⟩ : ByteArray)]) (t := 27) ?hr ?_; (case hd => rfl); (case hg => rfl); (case hr => first | (go_simp; done) | (go_simp; rfl))
   intro ac hg w15 hbox hb
   have ag := am (hbox)
   have aL := am ((gT hg HB.out))
   have aM := am ((gT hg HB.out))
   have ai := am ((nT aa.out hg))
   have ao := am ((mT aa.out hg))
   have av := am ((nT ah.out hg))
   have aw := am ((mT ah.out hg))
   replace aa := am (bB aa.out hb)
   replace ah := am (bB ah.out hb)
   replace HB := am (sT HB.out hb)
   clear hb hbox hg
   refine hK.out _ _ ⟨cT aa 0, cT aa 1, cT aa 2, cT aa 3, cT aa 4, cT aa 5, cT aa 6⟩ (fun hHeld => ?_)
   clear hK K
   refine mN 4 ?_
   exact qN (hJ12_13 (ac, ad) _ ⟨hHeld, (bT aa.out), (bT ag.out), (bT ah.out), aL.out, aM.out, ai.out, ao.out, av.out, aw.out, aN.out, aO.out, an.out, aq.out, (eT HB.out)⟩)
 ·as_aux_lemma =>
  skip
  rintro ac w14 ⟨hS_, h0_, h1_, h2_, h3_, h4_, h5_, h6_⟩
  replace aa : Aside0 (w14.heap[ab]? = some (.cells #[.slice aD l0_0.length aE, .slice aF l0_1.length aG, .string a0_2, .string a0_3, .string a0_4, .string a0_5, .string a0_6] 29 (0, 0))) := ⟨h0_⟩
  have ag : Aside0 (w14.heap[ac]? = some (.cells #[.string (⟨#[]⟩ : ByteArray), .string (⟨#[]⟩ : ByteArray)] 27 (0, 0))) := ⟨h1_⟩
  have aL : Aside0 (w.heap.size ≤ ac) := ⟨h2_⟩
  have aM : Aside0 (w.heap.size ≤ ac) := ⟨h3_⟩
  have ai : Aside0 (ab ≠ ac) := ⟨h4_⟩
  have ao : Aside0 (ac ≠ ab) := ⟨h5_⟩
  replace HB : Aside0 (Below w.heap.size w w14) := ⟨h6_⟩
  clear h0_ h1_ h2_ h3_ h4_ h5_ h6_
  have hHeld := hS_
  (try dsimp only at hHeld)
  refine rN ?_
  refine eT3 (some 23) (some 3) (some 5) 2 11 13 (bA 18 5855) (bA 18 7899) (bA 18 14043) HT_.out (fun K hK => ?_) (fun K hK => ?_) (fun K hK => ?_)
  ·skip
   refine gS Tryd.func7 #[.agg #[.slice aD l0_0.length aE, .slice aF l0_1.length aG]] ?_
   with_reducible refine (graftwoodlaw12_Few.calls k _ _ l0_0 _ _ l0_1 az aA _ ?side1 ?side2 ?side3 ?side4 A2.out).mono ?_
   (case side1 => exact cW (Kd.C_below b2.out HB.out))
   (case side2 => exact b3.out)
   (case side3 => exact cW (Kd.C_below b4.out HB.out))
   (case side4 => exact b5.out)
   rintro e w15 ⟨aH, aI, rfl, ho0, ho1, hb⟩
   refine ⟨_, rfl, ?_⟩
   have aj := am (Kd.R_lower (Kd.R_newB ho0 (g := ac) (o := .cells #[.string (⟨#[]⟩ : ByteArray), .string (⟨#[]⟩ : ByteArray)] 27 (0, 0)) (bT ag.out)) (below_size (eT HB.out)))
   have ak := am (Kd.R_lower ho1 (below_size (eT HB.out)))
   replace aa := am (bB aa.out hb)
   replace ag := am (bB ag.out hb)
   replace HB := am (sT HB.out hb)
   (try clear hb)
   (try clear hb2)
   (try clear hk)
   (try clear hi)
   (try clear ho0)
   (try clear ho1)
   refine hK.out _ _ ⟨cT aa 0, cT aa 1, cT aa 2, cT aa 3, cT aa 4, cT aa 5, cT aa 6⟩ (fun hHeld => ?_)
   clear hK K
   refine mN 23 ?_
   exact qN (hJ2_12 (aH, aI, ac) _ ⟨hHeld, (by (with_reducible repeat (first | apply Kd.R_alloc | apply Kd.R_drewN | apply Kd.R_drew)); exact Kd.R_mono aj.out (fun _ hk => hk.2)), (rT ak.out), (bT aa.out), (bT ag.out), aL.out, aM.out, ai.out, ao.out, (eT HB.out)⟩)
  ·skip
   refine box_step ?hg (N := 3) ?hd (cs := #[.slice none 0 0, .slice none 0 0]) (t := 25) ?hr ?_; (case hd => rfl); (case hg => rfl); (case hr => first | (go_simp; done) | (go_simp; rfl))
   intro ae hg w15 hbox hb
   have af := am (hbox)
   have aJ := am ((gT hg HB.out))
   have aK := am ((gT hg HB.out))
   have al := am ((nT aa.out hg))
   have ap := am ((mT aa.out hg))
   have ax := am ((nT ag.out hg))
   have ay := am ((mT ag.out hg))
   replace aa := am (bB aa.out hb)
   replace ag := am (bB ag.out hb)
   replace HB := am (sT HB.out hb)
   clear hb hbox hg
   refine hK.out _ _ ⟨cT aa 0, cT aa 1, cT aa 2, cT aa 3, cT aa 4, cT aa 5, cT aa 6⟩ (fun hHeld => ?_)
   clear hK K
   refine mN 3 ?_
   exact qN (hJ11_12 (ae, ac) _ ⟨hHeld, (bT aa.out), (bT af.out), (bT ag.out), aJ.out, aK.out, al.out, ap.out, ax.out, ay.out, aL.out, aM.out, ai.out, ao.out, (eT HB.out)⟩)
  ·skip
   refine box_step ?hg (N := 5) ?hd (cs := #[.string (⟨#[]⟩ : ByteArray), .string (⟨#[]⟩ : ByteArray)]) (t := 27) ?hr ?_; (case hd => rfl); (case hg => rfl); (case hr => first | (go_simp; done) | (go_simp; rfl))
   intro ad hg w15 hbox hb
   have ah := am (hbox)
   have aN := am ((gT hg HB.out))
   have aO := am ((gT hg HB.out))
   have an := am ((nT aa.out hg))
   have aq := am ((mT aa.out hg))
   have aw := am ((nT ag.out hg))
   have av := am ((mT ag.out hg))
   replace aa := am (bB aa.out hb)
   replace ag := am (bB ag.out hb)
   replace HB := am (sT HB.out hb)
   clear hb hbox hg
   refine hK.out _ _ ⟨cT aa 0, cT aa 1, cT aa 2, cT aa 3, cT aa 4, cT aa 5, cT aa 6⟩ (fun hHeld => ?_)
   clear hK K
   refine mN 5 ?_
   exact qN (hJ12_13 (ac, ad) _ ⟨hHeld, (bT aa.out), (bT ag.out), (bT ah.out), aL.out, aM.out, ai.out, ao.out, av.out, aw.out, aN.out, aO.out, an.out, aq.out, (eT HB.out)⟩)
 ·as_aux_lemma =>
  skip
  rintro ae w14 ⟨hS_, h0_, h1_, h2_, h3_, h4_, h5_, h6_⟩
  replace aa : Aside0 (w14.heap[ab]? = some (.cells #[.slice aD l0_0.length aE, .slice aF l0_1.length aG, .string a0_2, .string a0_3, .string a0_4, .string a0_5, .string a0_6] 29 (0, 0))) := ⟨h0_⟩
  have af : Aside0 (w14.heap[ae]? = some (.cells #[.slice none 0 0, .slice none 0 0] 25 (0, 0))) := ⟨h1_⟩
  have aJ : Aside0 (w.heap.size ≤ ae) := ⟨h2_⟩
  have aK : Aside0 (w.heap.size ≤ ae) := ⟨h3_⟩
  have al : Aside0 (ab ≠ ae) := ⟨h4_⟩
  have ap : Aside0 (ae ≠ ab) := ⟨h5_⟩
  replace HB : Aside0 (Below w.heap.size w w14) := ⟨h6_⟩
  clear h0_ h1_ h2_ h3_ h4_ h5_ h6_
  have hHeld := hS_
  (try dsimp only at hHeld)
  refine rN ?_
  refine eT3 (some 23) (some 4) (some 5) 2 12 13 (bA 18 3807) (bA 18 7899) (bA 18 11995) HT_.out (fun K hK => ?_) (fun K hK => ?_) (fun K hK => ?_)
  ·skip
   refine gS Tryd.func7 #[.agg #[.slice aD l0_0.length aE, .slice aF l0_1.length aG]] ?_
   with_reducible refine (graftwoodlaw12_Few.calls k _ _ l0_0 _ _ l0_1 az aA _ ?side1 ?side2 ?side3 ?side4 A2.out).mono ?_
   (case side1 => exact cW (Kd.C_below b2.out HB.out))
   (case side2 => exact b3.out)
   (case side3 => exact cW (Kd.C_below b4.out HB.out))
   (case side4 => exact b5.out)
   rintro e w15 ⟨aH, aI, rfl, ho0, ho1, hb⟩
   refine ⟨_, rfl, ?_⟩
   have aj := am (Kd.R_lower ho0 (below_size (eT HB.out)))
   have ak := am (Kd.R_lower ho1 (below_size (eT HB.out)))
   replace aa := am (bB aa.out hb)
   replace af := am (bB af.out hb)
   replace HB := am (sT HB.out hb)
   (try clear hb)
   (try clear hb2)
   (try clear hk)
   (try clear hi)
   (try clear ho0)
   (try clear ho1)
   refine hK.out _ _ ⟨cT aa 0, cT aa 1, cT aa 2, cT aa 3, cT aa 4, cT aa 5, cT aa 6⟩ (fun hHeld => ?_)
   clear hK K
   refine mN 23 ?_
   exact qN (hJ2_11 (aH, aI, ae) _ ⟨hHeld, (rT aj.out), (rT ak.out), (bT aa.out), (bT af.out), aJ.out, aK.out, al.out, ap.out, (eT HB.out)⟩)
  ·skip
   refine box_step ?hg (N := 4) ?hd (cs := #[.string (⟨#[]⟩ : ByteArray), .string (⟨#[]⟩ : ByteArray)]) (t := 27) ?hr ?_; (case hd => rfl); (case hg => rfl); (case hr => first | (go_simp; done) | (go_simp; rfl))
   intro ac hg w15 hbox hb
   have ag := am (hbox)
   have aL := am ((gT hg HB.out))
   have aM := am ((gT hg HB.out))
   have ai := am ((nT aa.out hg))
   have ao := am ((mT aa.out hg))
   have ay := am ((nT af.out hg))
   have ax := am ((mT af.out hg))
   replace aa := am (bB aa.out hb)
   replace af := am (bB af.out hb)
   replace HB := am (sT HB.out hb)
   clear hb hbox hg
   refine hK.out _ _ ⟨cT aa 0, cT aa 1, cT aa 2, cT aa 3, cT aa 4, cT aa 5, cT aa 6⟩ (fun hHeld => ?_)
   clear hK K
   refine mN 4 ?_
   exact qN (hJ11_12 (ae, ac) _ ⟨hHeld, (bT aa.out), (bT af.out), (bT ag.out), aJ.out, aK.out, al.out, ap.out, ax.out, ay.out, aL.out, aM.out, ai.out, ao.out, (eT HB.out)⟩)
  ·skip
   refine box_step ?hg (N := 5) ?hd (cs := #[.string (⟨#[]⟩ : ByteArray), .string (⟨#[]⟩ : ByteArray)]) (t := 27) ?hr ?_; (case hd => rfl); (case hg => rfl); (case hr => first | (go_simp; done) | (go_simp; rfl))
   intro ad hg w15 hbox hb
   have ah := am (hbox)
   have aN := am ((gT hg HB.out))
   have aO := am ((gT hg HB.out))
   have an := am ((nT aa.out hg))
   have aq := am ((mT aa.out hg))
   have au := am ((nT af.out hg))
   have ar := am ((mT af.out hg))
   replace aa := am (bB aa.out hb)
   replace af := am (bB af.out hb)
   replace HB := am (sT HB.out hb)
   clear hb hbox hg
   refine hK.out _ _ ⟨cT aa 0, cT aa 1, cT aa 2, cT aa 3, cT aa 4, cT aa 5, cT aa 6⟩ (fun hHeld => ?_)
   clear hK K
   refine mN 5 ?_
   exact qN (hJ11_13 (ae, ad) _ ⟨hHeld, (bT aa.out), (bT af.out), (bT ah.out), aJ.out, aK.out, al.out, ap.out, ar.out, au.out, aN.out, aO.out, an.out, aq.out, (eT HB.out)⟩)
 ·as_aux_lemma =>
  skip
  rintro ⟨aH, aI⟩ w14 ⟨hS_, h0_, h1_, h2_, h3_⟩
  have aj : Aside0 (Kd.R k27 27 w14 w.heap.size (fun _ => True) aH az) := ⟨h0_⟩
  have ak : Aside0 (Kd.R Kd.string 9 w14 w.heap.size (fun _ => True) aI aA) := ⟨h1_⟩
  replace aa : Aside0 (w14.heap[ab]? = some (.cells #[.slice aD l0_0.length aE, .slice aF l0_1.length aG, .string a0_2, .string a0_3, .string a0_4, .string a0_5, .string a0_6] 29 (0, 0))) := ⟨h2_⟩
  replace HB : Aside0 (Below w.heap.size w w14) := ⟨h3_⟩
  clear h0_ h1_ h2_ h3_
  have hHeld := hS_
  (try dsimp only at hHeld)
  refine rN ?_
  refine four_ (i := 5) (j := 11) (k := 12) (m := 13) (Ni := some 26) (Nj := some 3) (Nk := some 4) (Nm := some 5) (bA 18 1791) (bA 18 3807) (bA 18 5855) (bA 18 9951) rfl rfl rfl rfl rfl rfl rfl rfl (four_of HT_.out (by kernel_rfl)) (by decide) (by decide) (by decide) (by decide) (fun K hK => ?_) (fun K hK => ?_) (fun K hK => ?_) (fun K hK => ?_)
  ·skip
   refine gS Tryd.func8 #[.agg #[.string a0_2, .string a0_3]] ?_
   with_reducible refine (graftwoodlaw05_One.calls a0_2 a0_3 aB aC _ A3.out).mono ?_
   rintro e w15 ⟨rfl, hb⟩
   refine ⟨_, rfl, ?_⟩
   replace aj := am (rB aj.out hb)
   replace ak := am (rB ak.out hb)
   replace aa := am (bB aa.out hb)
   replace HB := am (sT HB.out hb)
   (try clear hb)
   (try clear hb2)
   (try clear hk)
   (try clear hi)
   refine hK.out _ _ ⟨cT aa 0, cT aa 1, cT aa 2, cT aa 3, cT aa 4, cT aa 5, cT aa 6⟩ (fun hHeld => ?_)
   clear hK K
   refine mN 26 ?_
   exact qN (hJ2_5 (aH, aI) _ ⟨hHeld, (rT aj.out), (rT ak.out), (bT aa.out), (eT HB.out)⟩)
  ·skip
   refine box_step ?hg (N := 3) ?hd (cs := #[.slice none 0 0, .slice none 0 0]) (t := 25) ?hr ?_; (case hd => rfl); (case hg => rfl); (case hr => first | (go_simp; done) | (go_simp; rfl))
   intro ae hg w15 hbox hb
   replace aj := am (rB aj.out hb)
   replace ak := am (rB ak.out hb)
   have af := am (hbox)
   have aJ := am ((gT hg HB.out))
   have aK := am ((gT hg HB.out))
   have al := am ((nT aa.out hg))
   have ap := am ((mT aa.out hg))
   replace aa := am (bB aa.out hb)
   replace HB := am (sT HB.out hb)
   clear hb hbox hg
   refine hK.out _ _ ⟨cT aa 0, cT aa 1, cT aa 2, cT aa 3, cT aa 4, cT aa 5, cT aa 6⟩ (fun hHeld => ?_)
   clear hK K
   refine mN 3 ?_
   exact qN (hJ2_11 (aH, aI, ae) _ ⟨hHeld, (rT aj.out), (rT ak.out), (bT aa.out), (bT af.out), aJ.out, aK.out, al.out, ap.out, (eT HB.out)⟩)
  ·skip
   refine box_step ?hg (N := 4) ?hd (cs := #[.string (⟨#[]⟩ : ByteArray), .string (⟨#[]⟩ : ByteArray)]) (t := 27) ?hr ?_; (case hd => rfl); (case hg => rfl); (case hr => first | (go_simp; done) | (go_simp; rfl))
   intro ac hg w15 hbox hb
   replace aj := am (Kd.R_below (Kd.R_elderB (rT aj.out) ac (Nat.le_of_eq hg.symm)) hb)
   replace ak := am (rB ak.out hb)
   have ag := am (hbox)
   have aL := am ((gT hg HB.out))
   have aM := am ((gT hg HB.out))
   have ai := am ((nT aa.out hg))
   have ao := am ((mT aa.out hg))
   replace aa := am (bB aa.out hb)
   replace HB := am (sT HB.out hb)
   clear hb hbox hg
   refine hK.out _ _ ⟨cT aa 0, cT aa 1, cT aa 2, cT aa 3, cT aa 4, cT aa 5, cT aa 6⟩ (fun hHeld => ?_)
   clear hK K
   refine mN 4 ?_
   exact qN (hJ2_12 (aH, aI, ac) _ ⟨hHeld, (by (with_reducible repeat (first | apply Kd.R_alloc | apply Kd.R_drewN | apply Kd.R_drew)); exact Kd.R_mono aj.out (fun _ hk => hk.2)), (rT ak.out), (bT aa.out), (bT ag.out), aL.out, aM.out, ai.out, ao.out, (eT HB.out)⟩)
  ·skip
   refine box_step ?hg (N := 5) ?hd (cs := #[.string (⟨#[]⟩ : ByteArray), .string (⟨#[]⟩ : ByteArray)]) (t := 27) ?hr ?_; (case hd => rfl); (case hg => rfl); (case hr => first | (go_simp; done) | (go_simp; rfl))
   intro ad hg w15 hbox hb
   replace aj := am (Kd.R_below (Kd.R_elderB (rT aj.out) ad (Nat.le_of_eq hg.symm)) hb)
   replace ak := am (rB ak.out hb)
   have ah := am (hbox)
   have aN := am ((gT hg HB.out))
   have aO := am ((gT hg HB.out))
   have an := am ((nT aa.out hg))
   have aq := am ((mT aa.out hg))
   replace aa := am (bB aa.out hb)
   replace HB := am (sT HB.out hb)
   clear hb hbox hg
   refine hK.out _ _ ⟨cT aa 0, cT aa 1, cT aa 2, cT aa 3, cT aa 4, cT aa 5, cT aa 6⟩ (fun hHeld => ?_)
   clear hK K
   refine mN 5 ?_
   exact qN (hJ2_13 (aH, aI, ad) _ ⟨hHeld, (by (with_reducible repeat (first | apply Kd.R_alloc | apply Kd.R_drewN | apply Kd.R_drew)); exact Kd.R_mono aj.out (fun _ hk => hk.2)), (rT ak.out), (bT aa.out), (bT ah.out), aN.out, aO.out, an.out, aq.out, (eT HB.out)⟩)
 ·as_aux_lemma =>
  skip
  rintro ⟨ac, ad⟩ w15 ⟨hS_, h0_, h1_, h2_, h3_, h4_, h5_, h6_, h7_, h8_, h9_, h10_, h11_, h12_, h13_⟩
  replace aa : Aside0 (w15.heap[ab]? = some (.cells #[.slice aD l0_0.length aE, .slice aF l0_1.length aG, .string a0_2, .string a0_3, .string a0_4, .string a0_5, .string a0_6] 29 (0, 0))) := ⟨h0_⟩
  have ag : Aside0 (w15.heap[ac]? = some (.cells #[.string (⟨#[]⟩ : ByteArray), .string (⟨#[]⟩ : ByteArray)] 27 (0, 0))) := ⟨h1_⟩
  have ah : Aside0 (w15.heap[ad]? = some (.cells #[.string (⟨#[]⟩ : ByteArray), .string (⟨#[]⟩ : ByteArray)] 27 (0, 0))) := ⟨h2_⟩
  have aL : Aside0 (w.heap.size ≤ ac) := ⟨h3_⟩
  have aM : Aside0 (w.heap.size ≤ ac) := ⟨h4_⟩
  have ai : Aside0 (ab ≠ ac) := ⟨h5_⟩
  have ao : Aside0 (ac ≠ ab) := ⟨h6_⟩
  have av : Aside0 (ad ≠ ac) := ⟨h7_⟩
  have aw : Aside0 (ac ≠ ad) := ⟨h8_⟩
  have aN : Aside0 (w.heap.size ≤ ad) := ⟨h9_⟩
  have aO : Aside0 (w.heap.size ≤ ad) := ⟨h10_⟩
  have an : Aside0 (ab ≠ ad) := ⟨h11_⟩
  have aq : Aside0 (ad ≠ ab) := ⟨h12_⟩
  replace HB : Aside0 (Below w.heap.size w w15) := ⟨h13_⟩
  clear h0_ h1_ h2_ h3_ h4_ h5_ h6_ h7_ h8_ h9_ h10_ h11_ h12_ h13_
  have hHeld := hS_
  (try dsimp only at hHeld)
  refine rN ?_
  refine dT (some 23) (some 3) 2 11 (bA 18 14047) (bA 18 16091) HT_.out (fun K hK => ?_) (fun K hK => ?_)
  ·skip
   refine gS Tryd.func7 #[.agg #[.slice aD l0_0.length aE, .slice aF l0_1.length aG]] ?_
   with_reducible refine (graftwoodlaw12_Few.calls k _ _ l0_0 _ _ l0_1 az aA _ ?side1 ?side2 ?side3 ?side4 A2.out).mono ?_
   (case side1 => exact cW (Kd.C_below b2.out HB.out))
   (case side2 => exact b3.out)
   (case side3 => exact cW (Kd.C_below b4.out HB.out))
   (case side4 => exact b5.out)
   rintro e w16 ⟨aH, aI, rfl, ho0, ho1, hb⟩
   refine ⟨_, rfl, ?_⟩
   have aj := am (Kd.R_lower (Kd.R_newB (Kd.R_newB ho0 (g := ac) (o := .cells #[.string (⟨#[]⟩ : ByteArray), .string (⟨#[]⟩ : ByteArray)] 27 (0, 0)) (bT ag.out)) (g := ad) (o := .cells #[.string (⟨#[]⟩ : ByteArray), .string (⟨#[]⟩ : ByteArray)] 27 (0, 0)) (bT ah.out)) (below_size (eT HB.out)))
   have ak := am (Kd.R_lower ho1 (below_size (eT HB.out)))
   replace aa := am (bB aa.out hb)
   replace ag := am (bB ag.out hb)
   replace ah := am (bB ah.out hb)
   replace HB := am (sT HB.out hb)
   (try clear hb)
   (try clear hb2)
   (try clear hk)
   (try clear hi)
   (try clear ho0)
   (try clear ho1)
   refine hK.out _ _ ⟨cT aa 0, cT aa 1, cT aa 2, cT aa 3, cT aa 4, cT aa 5, cT aa 6⟩ (fun hHeld => ?_)
   clear hK K
   refine mN 23 ?_
   exact qN (hJ2_12_13 (aH, aI, ac, ad) _ ⟨hHeld, (by (with_reducible repeat (first | apply Kd.R_alloc | apply Kd.R_drewN | apply Kd.R_drew)); exact Kd.R_mono aj.out (fun _ hk => ⟨hk.1.2, hk.2⟩)), (rT ak.out), (bT aa.out), (bT ag.out), (bT ah.out), aL.out, aM.out, ai.out, ao.out, av.out, aw.out, aN.out, aO.out, an.out, aq.out, (eT HB.out)⟩)
  ·skip
   refine box_step ?hg (N := 3) ?hd (cs := #[.slice none 0 0, .slice none 0 0]) (t := 25) ?hr ?_; (case hd => rfl); (case hg => rfl); (case hr => first | (go_simp; done) | (go_simp; rfl))
   intro ae hg w16 hbox hb
   have af := am (hbox)
   have aJ := am ((gT hg HB.out))
   have aK := am ((gT hg HB.out))
   have al := am ((nT aa.out hg))
   have ap := am ((mT aa.out hg))
   have ax := am ((nT ag.out hg))
   have ay := am ((mT ag.out hg))
   have ar := am ((nT ah.out hg))
   have au := am ((mT ah.out hg))
   replace aa := am (bB aa.out hb)
   replace ag := am (bB ag.out hb)
   replace ah := am (bB ah.out hb)
   replace HB := am (sT HB.out hb)
   clear hb hbox hg
   refine hK.out _ _ ⟨cT aa 0, cT aa 1, cT aa 2, cT aa 3, cT aa 4, cT aa 5, cT aa 6⟩ (fun hHeld => ?_)
   clear hK K
   refine mN 3 ?_
   exact qN (hJ11_12_13 (ae, ac, ad) _ ⟨hHeld, (bT aa.out), (bT af.out), (bT ag.out), (bT ah.out), aJ.out, aK.out, al.out, ap.out, ax.out, ay.out, ar.out, au.out, aL.out, aM.out, ai.out, ao.out, av.out, aw.out, aN.out, aO.out, an.out, aq.out, (eT HB.out)⟩)
 ·as_aux_lemma =>
  skip
  rintro ⟨ae, ad⟩ w15 ⟨hS_, h0_, h1_, h2_, h3_, h4_, h5_, h6_, h7_, h8_, h9_, h10_, h11_, h12_, h13_⟩
  replace aa : Aside0 (w15.heap[ab]? = some (.cells #[.slice aD l0_0.length aE, .slice aF l0_1.length aG, .string a0_2, .string a0_3, .string a0_4, .string a0_5, .string a0_6] 29 (0, 0))) := ⟨h0_⟩
  have af : Aside0 (w15.heap[ae]? = some (.cells #[.slice none 0 0, .slice none 0 0] 25 (0, 0))) := ⟨h1_⟩
  have ah : Aside0 (w15.heap[ad]? = some (.cells #[.string (⟨#[]⟩ : ByteArray), .string (⟨#[]⟩ : ByteArray)] 27 (0, 0))) := ⟨h2_⟩
  have aJ : Aside0 (w.heap.size ≤ ae) := ⟨h3_⟩
  have aK : Aside0 (w.heap.size ≤ ae) := ⟨h4_⟩
  have al : Aside0 (ab ≠ ae) := ⟨h5_⟩
  have ap : Aside0 (ae ≠ ab) := ⟨h6_⟩
  have ar : Aside0 (ad ≠ ae) := ⟨h7_⟩
  have au : Aside0 (ae ≠ ad) := ⟨h8_⟩
  have aN : Aside0 (w.heap.size ≤ ad) := ⟨h9_⟩
  have aO : Aside0 (w.heap.size ≤ ad) := ⟨h10_⟩
  have an : Aside0 (ab ≠ ad) := ⟨h11_⟩
  have aq : Aside0 (ad ≠ ab) := ⟨h12_⟩
  replace HB : Aside0 (Below w.heap.size w w15) := ⟨h13_⟩
  clear h0_ h1_ h2_ h3_ h4_ h5_ h6_ h7_ h8_ h9_ h10_ h11_ h12_ h13_
  have hHeld := hS_
  (try dsimp only at hHeld)
  refine rN ?_
  refine dT (some 23) (some 4) 2 12 (bA 18 11999) (bA 18 16091) HT_.out (fun K hK => ?_) (fun K hK => ?_)
  ·skip
   refine gS Tryd.func7 #[.agg #[.slice aD l0_0.length aE, .slice aF l0_1.length aG]] ?_
   with_reducible refine (graftwoodlaw12_Few.calls k _ _ l0_0 _ _ l0_1 az aA _ ?side1 ?side2 ?side3 ?side4 A2.out).mono ?_
   (case side1 => exact cW (Kd.C_below b2.out HB.out))
   (case side2 => exact b3.out)
   (case side3 => exact cW (Kd.C_below b4.out HB.out))
   (case side4 => exact b5.out)
   rintro e w16 ⟨aH, aI, rfl, ho0, ho1, hb⟩
   refine ⟨_, rfl, ?_⟩
   have aj := am (Kd.R_lower (Kd.R_newB ho0 (g := ad) (o := .cells #[.string (⟨#[]⟩ : ByteArray), .string (⟨#[]⟩ : ByteArray)] 27 (0, 0)) (bT ah.out)) (below_size (eT HB.out)))
   have ak := am (Kd.R_lower ho1 (below_size (eT HB.out)))
   replace aa := am (bB aa.out hb)
   replace af := am (bB af.out hb)
   replace ah := am (bB ah.out hb)
   replace HB := am (sT HB.out hb)
   (try clear hb)
   (try clear hb2)
   (try clear hk)
   (try clear hi)
   (try clear ho0)
   (try clear ho1)
   refine hK.out _ _ ⟨cT aa 0, cT aa 1, cT aa 2, cT aa 3, cT aa 4, cT aa 5, cT aa 6⟩ (fun hHeld => ?_)
   clear hK K
   refine mN 23 ?_
   exact qN (hJ2_11_13 (aH, aI, ae, ad) _ ⟨hHeld, (by (with_reducible repeat (first | apply Kd.R_alloc | apply Kd.R_drewN | apply Kd.R_drew)); exact Kd.R_mono aj.out (fun _ hk => hk.2)), (rT ak.out), (bT aa.out), (bT af.out), (bT ah.out), aJ.out, aK.out, al.out, ap.out, ar.out, au.out, aN.out, aO.out, an.out, aq.out, (eT HB.out)⟩)
  ·skip
   refine box_step ?hg (N := 4) ?hd (cs := #[.string (⟨#[]⟩ : ByteArray), .string (⟨#[]⟩ : ByteArray)]) (t := 27) ?hr ?_; (case hd => rfl); (case hg => rfl); (case hr => first | (go_simp; done) | (go_simp; rfl))
   intro ac hg w16 hbox hb
   have ag := am (hbox)
   have aL := am ((gT hg HB.out))
   have aM := am ((gT hg HB.out))
   have ai := am ((nT aa.out hg))
   have ao := am ((mT aa.out hg))
   have ay := am ((nT af.out hg))
   have ax := am ((mT af.out hg))
   have av := am ((nT ah.out hg))
   have aw := am ((mT ah.out hg))
   replace aa := am (bB aa.out hb)
   replace af := am (bB af.out hb)
   replace ah := am (bB ah.out hb)
   replace HB := am (sT HB.out hb)
   clear hb hbox hg
   refine hK.out _ _ ⟨cT aa 0, cT aa 1, cT aa 2, cT aa 3, cT aa 4, cT aa 5, cT aa 6⟩ (fun hHeld => ?_)
   clear hK K
   refine mN 4 ?_
   exact qN (hJ11_12_13 (ae, ac, ad) _ ⟨hHeld, (bT aa.out), (bT af.out), (bT ag.out), (bT ah.out), aJ.out, aK.out, al.out, ap.out, ax.out, ay.out, ar.out, au.out, aL.out, aM.out, ai.out, ao.out, av.out, aw.out, aN.out, aO.out, an.out, aq.out, (eT HB.out)⟩)
 ·as_aux_lemma =>
  skip
  rintro ⟨ae, ac⟩ w15 ⟨hS_, h0_, h1_, h2_, h3_, h4_, h5_, h6_, h7_, h8_, h9_, h10_, h11_, h12_, h13_⟩
  replace aa : Aside0 (w15.heap[ab]? = some (.cells #[.slice aD l0_0.length aE, .slice aF l0_1.length aG, .string a0_2, .string a0_3, .string a0_4, .string a0_5, .string a0_6] 29 (0, 0))) := ⟨h0_⟩
  have af : Aside0 (w15.heap[ae]? = some (.cells #[.slice none 0 0, .slice none 0 0] 25 (0, 0))) := ⟨h1_⟩
  have ag : Aside0 (w15.heap[ac]? = some (.cells #[.string (⟨#[]⟩ : ByteArray), .string (⟨#[]⟩ : ByteArray)] 27 (0, 0))) := ⟨h2_⟩
  have aJ : Aside0 (w.heap.size ≤ ae) := ⟨h3_⟩
  have aK : Aside0 (w.heap.size ≤ ae) := ⟨h4_⟩
  have al : Aside0 (ab ≠ ae) := ⟨h5_⟩
  have ap : Aside0 (ae ≠ ab) := ⟨h6_⟩
  have ax : Aside0 (ac ≠ ae) := ⟨h7_⟩
  have ay : Aside0 (ae ≠ ac) := ⟨h8_⟩
  have aL : Aside0 (w.heap.size ≤ ac) := ⟨h9_⟩
  have aM : Aside0 (w.heap.size ≤ ac) := ⟨h10_⟩
  have ai : Aside0 (ab ≠ ac) := ⟨h11_⟩
  have ao : Aside0 (ac ≠ ab) := ⟨h12_⟩
  replace HB : Aside0 (Below w.heap.size w w15) := ⟨h13_⟩
  clear h0_ h1_ h2_ h3_ h4_ h5_ h6_ h7_ h8_ h9_ h10_ h11_ h12_ h13_
  have hHeld := hS_
  (try dsimp only at hHeld)
  refine rN ?_
  refine dT (some 23) (some 5) 2 13 (bA 18 7903) (bA 18 16091) HT_.out (fun K hK => ?_) (fun K hK => ?_)
  ·skip
   refine gS Tryd.func7 #[.agg #[.slice aD l0_0.length aE, .slice aF l0_1.length aG]] ?_
   with_reducible refine (graftwoodlaw12_Few.calls k _ _ l0_0 _ _ l0_1 az aA _ ?side1 ?side2 ?side3 ?side4 A2.out).mono ?_
   (case side1 => exact cW (Kd.C_below b2.out HB.out))
   (case side2 => exact b3.out)
   (case side3 => exact cW (Kd.C_below b4.out HB.out))
   (case side4 => exact b5.out)
   rintro e w16 ⟨aH, aI, rfl, ho0, ho1, hb⟩
   refine ⟨_, rfl, ?_⟩
   have aj := am (Kd.R_lower (Kd.R_newB ho0 (g := ac) (o := .cells #[.string (⟨#[]⟩ : ByteArray), .string (⟨#[]⟩ : ByteArray)] 27 (0, 0)) (bT ag.out)) (below_size (eT HB.out)))
   have ak := am (Kd.R_lower ho1 (below_size (eT HB.out)))
   replace aa := am (bB aa.out hb)
   replace af := am (bB af.out hb)
   replace ag := am (bB ag.out hb)
   replace HB := am (sT HB.out hb)
   (try clear hb)
   (try clear hb2)
   (try clear hk)
   (try clear hi)
   (try clear ho0)
   (try clear ho1)
   refine hK.out _ _ ⟨cT aa 0, cT aa 1, cT aa 2, cT aa 3, cT aa 4, cT aa 5, cT aa 6⟩ (fun hHeld => ?_)
   clear hK K
   refine mN 23 ?_
   exact qN (hJ2_11_12 (aH, aI, ae, ac) _ ⟨hHeld, (by (with_reducible repeat (first | apply Kd.R_alloc | apply Kd.R_drewN | apply Kd.R_drew)); exact Kd.R_mono aj.out (fun _ hk => hk.2)), (rT ak.out), (bT aa.out), (bT af.out), (bT ag.out), aJ.out, aK.out, al.out, ap.out, ax.out, ay.out, aL.out, aM.out, ai.out, ao.out, (eT HB.out)⟩)
  ·skip
   refine box_step ?hg (N := 5) ?hd (cs := #[.string (⟨#[]⟩ : ByteArray), .string (⟨#[]⟩ : ByteArray)]) (t := 27) ?hr ?_; (case hd => rfl); (case hg => rfl); (case hr => first | (go_simp; done) | (go_simp; rfl))
   intro ad hg w16 hbox hb
   have ah := am (hbox)
   have aN := am ((gT hg HB.out))
   have aO := am ((gT hg HB.out))
   have an := am ((nT aa.out hg))
   have aq := am ((mT aa.out hg))
   have au := am ((nT af.out hg))
   have ar := am ((mT af.out hg))
   have aw := am ((nT ag.out hg))
   have av := am ((mT ag.out hg))
   replace aa := am (bB aa.out hb)
   replace af := am (bB af.out hb)
   replace ag := am (bB ag.out hb)
   replace HB := am (sT HB.out hb)
   clear hb hbox hg
   refine hK.out _ _ ⟨cT aa 0, cT aa 1, cT aa 2, cT aa 3, cT aa 4, cT aa 5, cT aa 6⟩ (fun hHeld => ?_)
   clear hK K
   refine mN 5 ?_
   exact qN (hJ11_12_13 (ae, ac, ad) _ ⟨hHeld, (bT aa.out), (bT af.out), (bT ag.out), (bT ah.out), aJ.out, aK.out, al.out, ap.out, ax.out, ay.out, ar.out, au.out, aL.out, aM.out, ai.out, ao.out, av.out, aw.out, aN.out, aO.out, an.out, aq.out, (eT HB.out)⟩)
 ·as_aux_lemma =>
  skip
  rintro ⟨aH, aI, ad⟩ w15 ⟨hS_, h0_, h1_, h2_, h3_, h4_, h5_, h6_, h7_, h8_⟩
  have aj : Aside0 (Kd.R k27 27 w15 w.heap.size (fun k_ => k_ ≠ ad) aH az) := ⟨h0_⟩
  have ak : Aside0 (Kd.R Kd.string 9 w15 w.heap.size (fun _ => True) aI aA) := ⟨h1_⟩
  replace aa : Aside0 (w15.heap[ab]? = some (.cells #[.slice aD l0_0.length aE, .slice aF l0_1.length aG, .string a0_2, .string a0_3, .string a0_4, .string a0_5, .string a0_6] 29 (0, 0))) := ⟨h2_⟩
  have ah : Aside0 (w15.heap[ad]? = some (.cells #[.string (⟨#[]⟩ : ByteArray), .string (⟨#[]⟩ : ByteArray)] 27 (0, 0))) := ⟨h3_⟩
  have aN : Aside0 (w.heap.size ≤ ad) := ⟨h4_⟩
  have aO : Aside0 (w.heap.size ≤ ad) := ⟨h5_⟩
  have an : Aside0 (ab ≠ ad) := ⟨h6_⟩
  have aq : Aside0 (ad ≠ ab) := ⟨h7_⟩
  replace HB : Aside0 (Below w.heap.size w w15) := ⟨h8_⟩
  clear h0_ h1_ h2_ h3_ h4_ h5_ h6_ h7_ h8_
  have hHeld := hS_
  (try dsimp only at hHeld)
  refine rN ?_
  refine eT3 (some 26) (some 3) (some 4) 5 11 12 (bA 18 9983) (bA 18 11999) (bA 18 14047) HT_.out (fun K hK => ?_) (fun K hK => ?_) (fun K hK => ?_)
  ·skip
   refine gS Tryd.func8 #[.agg #[.string a0_2, .string a0_3]] ?_
   with_reducible refine (graftwoodlaw05_One.calls a0_2 a0_3 aB aC _ A3.out).mono ?_
   rintro e w16 ⟨rfl, hb⟩
   refine ⟨_, rfl, ?_⟩
   replace aj := am (rB aj.out hb)
   replace ak := am (rB ak.out hb)
   replace aa := am (bB aa.out hb)
   replace ah := am (bB ah.out hb)
   replace HB := am (sT HB.out hb)
   (try clear hb)
   (try clear hb2)
   (try clear hk)
   (try clear hi)
   refine hK.out _ _ ⟨cT aa 0, cT aa 1, cT aa 2, cT aa 3, cT aa 4, cT aa 5, cT aa 6⟩ (fun hHeld => ?_)
   clear hK K
   refine mN 26 ?_
   exact qN (hJ2_5_13 (aH, aI, ad) _ ⟨hHeld, (rT aj.out), (rT ak.out), (bT aa.out), (bT ah.out), aN.out, aO.out, an.out, aq.out, (eT HB.out)⟩)
  ·skip
   refine box_step ?hg (N := 3) ?hd (cs := #[.slice none 0 0, .slice none 0 0]) (t := 25) ?hr ?_; (case hd => rfl); (case hg => rfl); (case hr => first | (go_simp; done) | (go_simp; rfl))
   intro ae hg w16 hbox hb
   replace aj := am (rB aj.out hb)
   replace ak := am (rB ak.out hb)
   have af := am (hbox)
   have aJ := am ((gT hg HB.out))
   have aK := am ((gT hg HB.out))
   have al := am ((nT aa.out hg))
   have ap := am ((mT aa.out hg))
   have ar := am ((nT ah.out hg))
   have au := am ((mT ah.out hg))
   replace aa := am (bB aa.out hb)
   replace ah := am (bB ah.out hb)
   replace HB := am (sT HB.out hb)
   clear hb hbox hg
   refine hK.out _ _ ⟨cT aa 0, cT aa 1, cT aa 2, cT aa 3, cT aa 4, cT aa 5, cT aa 6⟩ (fun hHeld => ?_)
   clear hK K
   refine mN 3 ?_
   exact qN (hJ2_11_13 (aH, aI, ae, ad) _ ⟨hHeld, (rT aj.out), (rT ak.out), (bT aa.out), (bT af.out), (bT ah.out), aJ.out, aK.out, al.out, ap.out, ar.out, au.out, aN.out, aO.out, an.out, aq.out, (eT HB.out)⟩)
  ·skip
   refine box_step ?hg (N := 4) ?hd (cs := #[.string (⟨#[]⟩ : ByteArray), .string (⟨#[]⟩ : ByteArray)]) (t := 27) ?hr ?_; (case hd => rfl); (case hg => rfl); (case hr => first | (go_simp; done) | (go_simp; rfl))
   intro ac hg w16 hbox hb
   replace aj := am (Kd.R_below (Kd.R_elderB (rT aj.out) ac (Nat.le_of_eq hg.symm)) hb)
   replace ak := am (rB ak.out hb)
   have ag := am (hbox)
   have aL := am ((gT hg HB.out))
   have aM := am ((gT hg HB.out))
   have ai := am ((nT aa.out hg))
   have ao := am ((mT aa.out hg))
   have av := am ((nT ah.out hg))
   have aw := am ((mT ah.out hg))
   replace aa := am (bB aa.out hb)
   replace ah := am (bB ah.out hb)
   replace HB := am (sT HB.out hb)
   clear hb hbox hg
   refine hK.out _ _ ⟨cT aa 0, cT aa 1, cT aa 2, cT aa 3, cT aa 4, cT aa 5, cT aa 6⟩ (fun hHeld => ?_)
   clear hK K
   refine mN 4 ?_
   exact qN (hJ2_12_13 (aH, aI, ac, ad) _ ⟨hHeld, (by (with_reducible repeat (first | apply Kd.R_alloc | apply Kd.R_drewN | apply Kd.R_drew)); exact Kd.R_mono aj.out (fun _ hk => ⟨hk.2, hk.1⟩)), (rT ak.out), (bT aa.out), (bT ag.out), (bT ah.out), aL.out, aM.out, ai.out, ao.out, av.out, aw.out, aN.out, aO.out, an.out, aq.out, (eT HB.out)⟩)
 ·as_aux_lemma =>
  skip
  rintro ⟨aH, aI, ac⟩ w15 ⟨hS_, h0_, h1_, h2_, h3_, h4_, h5_, h6_, h7_, h8_⟩
  have aj : Aside0 (Kd.R k27 27 w15 w.heap.size (fun k_ => k_ ≠ ac) aH az) := ⟨h0_⟩
  have ak : Aside0 (Kd.R Kd.string 9 w15 w.heap.size (fun _ => True) aI aA) := ⟨h1_⟩
  replace aa : Aside0 (w15.heap[ab]? = some (.cells #[.slice aD l0_0.length aE, .slice aF l0_1.length aG, .string a0_2, .string a0_3, .string a0_4, .string a0_5, .string a0_6] 29 (0, 0))) := ⟨h2_⟩
  have ag : Aside0 (w15.heap[ac]? = some (.cells #[.string (⟨#[]⟩ : ByteArray), .string (⟨#[]⟩ : ByteArray)] 27 (0, 0))) := ⟨h3_⟩
  have aL : Aside0 (w.heap.size ≤ ac) := ⟨h4_⟩
  have aM : Aside0 (w.heap.size ≤ ac) := ⟨h5_⟩
  have ai : Aside0 (ab ≠ ac) := ⟨h6_⟩
  have ao : Aside0 (ac ≠ ab) := ⟨h7_⟩
  replace HB : Aside0 (Below w.heap.size w w15) := ⟨h8_⟩
  clear h0_ h1_ h2_ h3_ h4_ h5_ h6_ h7_ h8_
  have hHeld := hS_
  (try dsimp only at hHeld)
  refine rN ?_
  refine eT3 (some 26) (some 3) (some 5) 5 11 13 (bA 18 5887) (bA 18 7903) (bA 18 14047) HT_.out (fun K hK => ?_) (fun K hK => ?_) (fun K hK => ?_)
  ·skip
   refine gS Tryd.func8 #[.agg #[.string a0_2, .string a0_3]] ?_
   with_reducible refine (graftwoodlaw05_One.calls a0_2 a0_3 aB aC _ A3.out).mono ?_
   rintro e w16 ⟨rfl, hb⟩
   refine ⟨_, rfl, ?_⟩
   replace aj := am (rB aj.out hb)
   replace ak := am (rB ak.out hb)
   replace aa := am (bB aa.out hb)
   replace ag := am (bB ag.out hb)
   replace HB := am (sT HB.out hb)
   (try clear hb)
   (try clear hb2)
   (try clear hk)
   (try clear hi)
   refine hK.out _ _ ⟨cT aa 0, cT aa 1, cT aa 2, cT aa 3, cT aa 4, cT aa 5, cT aa 6⟩ (fun hHeld => ?_)
   clear hK K
   refine mN 26 ?_
   exact qN (hJ2_5_12 (aH, aI, ac) _ ⟨hHeld, (rT aj.out), (rT ak.out), (bT aa.out), (bT ag.out), aL.out, aM.out, ai.out, ao.out, (eT HB.out)⟩)
  ·skip
   refine box_step ?hg (N := 3) ?hd (cs := #[.slice none 0 0, .slice none 0 0]) (t := 25) ?hr ?_; (case hd => rfl); (case hg => rfl); (case hr => first | (go_simp; done) | (go_simp; rfl))
   intro ae hg w16 hbox hb
   replace aj := am (rB aj.out hb)
   replace ak := am (rB ak.out hb)
   have af := am (hbox)
   have aJ := am ((gT hg HB.out))
   have aK := am ((gT hg HB.out))
   have al := am ((nT aa.out hg))
   have ap := am ((mT aa.out hg))
   have ax := am ((nT ag.out hg))
   have ay := am ((mT ag.out hg))
   replace aa := am (bB aa.out hb)
   replace ag := am (bB ag.out hb)
   replace HB := am (sT HB.out hb)
   clear hb hbox hg
   refine hK.out _ _ ⟨cT aa 0, cT aa 1, cT aa 2, cT aa 3, cT aa 4, cT aa 5, cT aa 6⟩ (fun hHeld => ?_)
   clear hK K
   refine mN 3 ?_
   exact qN (hJ2_11_12 (aH, aI, ae, ac) _ ⟨hHeld, (rT aj.out), (rT ak.out), (bT aa.out), (bT af.out), (bT ag.out), aJ.out, aK.out, al.out, ap.out, ax.out, ay.out, aL.out, aM.out, ai.out, ao.out, (eT HB.out)⟩)
  ·skip
   refine box_step ?hg (N := 5) ?hd (cs := #[.string (⟨#[]⟩ : ByteArray), .string (⟨#[]⟩ : ByteArray)]) (t := 27) ?hr ?_; (case hd => rfl); (case hg => rfl); (case hr => first | (go_simp; done) | (go_simp; rfl))
   intro ad hg w16 hbox hb
   replace aj := am (Kd.R_below (Kd.R_elderB (rT aj.out) ad (Nat.le_of_eq hg.symm)) hb)
   replace ak := am (rB ak.out hb)
   have ah := am (hbox)
   have aN := am ((gT hg HB.out))
   have aO := am ((gT hg HB.out))
   have an := am ((nT aa.out hg))
   have aq := am ((mT aa.out hg))
   have aw := am ((nT ag.out hg))
   have av := am ((mT ag.out hg))
   replace aa := am (bB aa.out hb)
   replace ag := am (bB ag.out hb)
   replace HB := am (sT HB.out hb)
   clear hb hbox hg
   refine hK.out _ _ ⟨cT aa 0, cT aa 1, cT aa 2, cT aa 3, cT aa 4, cT aa 5, cT aa 6⟩ (fun hHeld => ?_)
   clear hK K
   refine mN 5 ?_
   exact qN (hJ2_12_13 (aH, aI, ac, ad) _ ⟨hHeld, (rT aj.out), (rT ak.out), (bT aa.out), (bT ag.out), (bT ah.out), aL.out, aM.out, ai.out, ao.out, av.out, aw.out, aN.out, aO.out, an.out, aq.out, (eT HB.out)⟩)
 ·as_aux_lemma =>
  skip
  rintro ⟨aH, aI, ae⟩ w15 ⟨hS_, h0_, h1_, h2_, h3_, h4_, h5_, h6_, h7_, h8_⟩
  have aj : Aside0 (Kd.R k27 27 w15 w.heap.size (fun _ => True) aH az) := ⟨h0_⟩
  have ak : Aside0 (Kd.R Kd.string 9 w15 w.heap.size (fun _ => True) aI aA) := ⟨h1_⟩
  replace aa : Aside0 (w15.heap[ab]? = some (.cells #[.slice aD l0_0.length aE, .slice aF l0_1.length aG, .string a0_2, .string a0_3, .string a0_4, .string a0_5, .string a0_6] 29 (0, 0))) := ⟨h2_⟩
  have af : Aside0 (w15.heap[ae]? = some (.cells #[.slice none 0 0, .slice none 0 0] 25 (0, 0))) := ⟨h3_⟩
  have aJ : Aside0 (w.heap.size ≤ ae) := ⟨h4_⟩
  have aK : Aside0 (w.heap.size ≤ ae) := ⟨h5_⟩
  have al : Aside0 (ab ≠ ae) := ⟨h6_⟩
  have ap : Aside0 (ae ≠ ab) := ⟨h7_⟩
  replace HB : Aside0 (Below w.heap.size w w15) := ⟨h8_⟩
  clear h0_ h1_ h2_ h3_ h4_ h5_ h6_ h7_ h8_
  have hHeld := hS_
  (try dsimp only at hHeld)
  refine rN ?_
  refine eT3 (some 26) (some 4) (some 5) 5 12 13 (bA 18 3839) (bA 18 7903) (bA 18 11999) HT_.out (fun K hK => ?_) (fun K hK => ?_) (fun K hK => ?_)
  ·skip
   refine gS Tryd.func8 #[.agg #[.string a0_2, .string a0_3]] ?_
   with_reducible refine (graftwoodlaw05_One.calls a0_2 a0_3 aB aC _ A3.out).mono ?_
   rintro e w16 ⟨rfl, hb⟩
   refine ⟨_, rfl, ?_⟩
   replace aj := am (rB aj.out hb)
   replace ak := am (rB ak.out hb)
   replace aa := am (bB aa.out hb)
   replace af := am (bB af.out hb)
   replace HB := am (sT HB.out hb)
   (try clear hb)
   (try clear hb2)
   (try clear hk)
   (try clear hi)
   refine hK.out _ _ ⟨cT aa 0, cT aa 1, cT aa 2, cT aa 3, cT aa 4, cT aa 5, cT aa 6⟩ (fun hHeld => ?_)
   clear hK K
   refine mN 26 ?_
   exact qN (hJ2_5_11 (aH, aI, ae) _ ⟨hHeld, (rT aj.out), (rT ak.out), (bT aa.out), (bT af.out), aJ.out, aK.out, al.out, ap.out, (eT HB.out)⟩)
  ·skip
   refine box_step ?hg (N := 4) ?hd (cs := #[.string (⟨#[]⟩ : ByteArray), .string (⟨#[]⟩ : ByteArray)]) (t := 27) ?hr ?_; (case hd => rfl); (case hg => rfl); (case hr => first | (go_simp; done) | (go_simp; rfl))
   intro ac hg w16 hbox hb
   replace aj := am (Kd.R_below (Kd.R_elderB (rT aj.out) ac (Nat.le_of_eq hg.symm)) hb)
   replace ak := am (rB ak.out hb)
   have ag := am (hbox)
   have aL := am ((gT hg HB.out))
   have aM := am ((gT hg HB.out))
   have ai := am ((nT aa.out hg))
   have ao := am ((mT aa.out hg))
   have ay := am ((nT af.out hg))
   have ax := am ((mT af.out hg))
   replace aa := am (bB aa.out hb)
   replace af := am (bB af.out hb)
   replace HB := am (sT HB.out hb)
   clear hb hbox hg
   refine hK.out _ _ ⟨cT aa 0, cT aa 1, cT aa 2, cT aa 3, cT aa 4, cT aa 5, cT aa 6⟩ (fun hHeld => ?_)
   clear hK K
   refine mN 4 ?_
   exact qN (hJ2_11_12 (aH, aI, ae, ac) _ ⟨hHeld, (by (with_reducible repeat (first | apply Kd.R_alloc | apply Kd.R_drewN | apply Kd.R_drew)); exact Kd.R_mono aj.out (fun _ hk => hk.2)), (rT ak.out), (bT aa.out), (bT af.out), (bT ag.out), aJ.out, aK.out, al.out, ap.out, ax.out, ay.out, aL.out, aM.out, ai.out, ao.out, (eT HB.out)⟩)
  ·skip
   refine box_step ?hg (N := 5) ?hd (cs := #[.string (⟨#[]⟩ : ByteArray), .string (⟨#[]⟩ : ByteArray)]) (t := 27) ?hr ?_; (case hd => rfl); (case hg => rfl); (case hr => first | (go_simp; done) | (go_simp; rfl))
   intro ad hg w16 hbox hb
   replace aj := am (Kd.R_below (Kd.R_elderB (rT aj.out) ad (Nat.le_of_eq hg.symm)) hb)
   replace ak := am (rB ak.out hb)
   have ah := am (hbox)
   have aN := am ((gT hg HB.out))
   have aO := am ((gT hg HB.out))
   have an := am ((nT aa.out hg))
   have aq := am ((mT aa.out hg))
   have au := am ((nT af.out hg))
   have ar := am ((mT af.out hg))
   replace aa := am (bB aa.out hb)
   replace af := am (bB af.out hb)
   replace HB := am (sT HB.out hb)
   clear hb hbox hg
   refine hK.out _ _ ⟨cT aa 0, cT aa 1, cT aa 2, cT aa 3, cT aa 4, cT aa 5, cT aa 6⟩ (fun hHeld => ?_)
   clear hK K
   refine mN 5 ?_
   exact qN (hJ2_11_13 (aH, aI, ae, ad) _ ⟨hHeld, (by (with_reducible repeat (first | apply Kd.R_alloc | apply Kd.R_drewN | apply Kd.R_drew)); exact Kd.R_mono aj.out (fun _ hk => hk.2)), (rT ak.out), (bT aa.out), (bT af.out), (bT ah.out), aJ.out, aK.out, al.out, ap.out, ar.out, au.out, aN.out, aO.out, an.out, aq.out, (eT HB.out)⟩)
 ·as_aux_lemma =>
  skip
  rintro ⟨aH, aI⟩ w15 ⟨hS_, h0_, h1_, h2_, h3_⟩
  have aj : Aside0 (Kd.R k27 27 w15 w.heap.size (fun _ => True) aH az) := ⟨h0_⟩
  have ak : Aside0 (Kd.R Kd.string 9 w15 w.heap.size (fun _ => True) aI aA) := ⟨h1_⟩
  replace aa : Aside0 (w15.heap[ab]? = some (.cells #[.slice aD l0_0.length aE, .slice aF l0_1.length aG, .string a0_2, .string a0_3, .string a0_4, .string a0_5, .string a0_6] 29 (0, 0))) := ⟨h2_⟩
  replace HB : Aside0 (Below w.heap.size w w15) := ⟨h3_⟩
  clear h0_ h1_ h2_ h3_
  have hHeld := hS_
  (try dsimp only at hHeld)
  refine rN ?_
  refine four_ (i := 8) (j := 11) (k := 12) (m := 13) (Ni := some 29) (Nj := some 3) (Nk := some 4) (Nm := some 5) (bA 18 2047) (bA 18 3839) (bA 18 5887) (bA 18 9983) rfl rfl rfl rfl rfl rfl rfl rfl (four_of HT_.out (by kernel_rfl)) (by decide) (by decide) (by decide) (by decide) (fun K hK => ?_) (fun K hK => ?_) (fun K hK => ?_) (fun K hK => ?_)
  ·skip
   refine gS Tryd.func8 #[.agg #[.string a0_4, .string a0_5]] ?_
   with_reducible refine (graftwoodlaw05_One.calls a0_4 a0_5 aP aQ _ A4.out).mono ?_
   rintro e w16 ⟨rfl, hb⟩
   refine ⟨_, rfl, ?_⟩
   replace aj := am (rB aj.out hb)
   replace ak := am (rB ak.out hb)
   replace aa := am (bB aa.out hb)
   replace HB := am (sT HB.out hb)
   (try clear hb)
   (try clear hb2)
   (try clear hk)
   (try clear hi)
   refine hK.out _ _ ⟨cT aa 0, cT aa 1, cT aa 2, cT aa 3, cT aa 4, cT aa 5, cT aa 6⟩ (fun hHeld => ?_)
   clear hK K
   refine mN 29 ?_
   exact qN (hJ2_5_8 (aH, aI) _ ⟨hHeld, (rT aj.out), (rT ak.out), (bT aa.out), (eT HB.out)⟩)
  ·skip
   refine box_step ?hg (N := 3) ?hd (cs := #[.slice none 0 0, .slice none 0 0]) (t := 25) ?hr ?_; (case hd => rfl); (case hg => rfl); (case hr => first | (go_simp; done) | (go_simp; rfl))
   intro ae hg w16 hbox hb
   replace aj := am (rB aj.out hb)
   replace ak := am (rB ak.out hb)
   have af := am (hbox)
   have aJ := am ((gT hg HB.out))
   have aK := am ((gT hg HB.out))
   have al := am ((nT aa.out hg))
   have ap := am ((mT aa.out hg))
   replace aa := am (bB aa.out hb)
   replace HB := am (sT HB.out hb)
   clear hb hbox hg
   refine hK.out _ _ ⟨cT aa 0, cT aa 1, cT aa 2, cT aa 3, cT aa 4, cT aa 5, cT aa 6⟩ (fun hHeld => ?_)
   clear hK K
   refine mN 3 ?_
   exact qN (hJ2_5_11 (aH, aI, ae) _ ⟨hHeld, (rT aj.out), (rT ak.out), (bT aa.out), (bT af.out), aJ.out, aK.out, al.out, ap.out, (eT HB.out)⟩)
  ·skip
   refine box_step ?hg (N := 4) ?hd (cs := #[.string (⟨#[]⟩ : ByteArray), .string (⟨#[]⟩ : ByteArray)]) (t := 27) ?hr ?_; (case hd => rfl); (case hg => rfl); (case hr => first | (go_simp; done) | (go_simp; rfl))
   intro ac hg w16 hbox hb
   replace aj := am (Kd.R_below (Kd.R_elderB (rT aj.out) ac (Nat.le_of_eq hg.symm)) hb)
   replace ak := am (rB ak.out hb)
   have ag := am (hbox)
   have aL := am ((gT hg HB.out))
   have aM := am ((gT hg HB.out))
   have ai := am ((nT aa.out hg))
   have ao := am ((mT aa.out hg))
   replace aa := am (bB aa.out hb)
   replace HB := am (sT HB.out hb)
   clear hb hbox hg
   refine hK.out _ _ ⟨cT aa 0, cT aa 1, cT aa 2, cT aa 3, cT aa 4, cT aa 5, cT aa 6⟩ (fun hHeld => ?_)
   clear hK K
   refine mN 4 ?_
   exact qN (hJ2_5_12 (aH, aI, ac) _ ⟨hHeld, (by (with_reducible repeat (first | apply Kd.R_alloc | apply Kd.R_drewN | apply Kd.R_drew)); exact Kd.R_mono aj.out (fun _ hk => hk.2)), (rT ak.out), (bT aa.out), (bT ag.out), aL.out, aM.out, ai.out, ao.out, (eT HB.out)⟩)
  ·skip
   refine box_step ?hg (N := 5) ?hd (cs := #[.string (⟨#[]⟩ : ByteArray), .string (⟨#[]⟩ : ByteArray)]) (t := 27) ?hr ?_; (case hd => rfl); (case hg => rfl); (case hr => first | (go_simp; done) | (go_simp; rfl))
   intro ad hg w16 hbox hb
   replace aj := am (Kd.R_below (Kd.R_elderB (rT aj.out) ad (Nat.le_of_eq hg.symm)) hb)
   replace ak := am (rB ak.out hb)
   have ah := am (hbox)
   have aN := am ((gT hg HB.out))
   have aO := am ((gT hg HB.out))
   have an := am ((nT aa.out hg))
   have aq := am ((mT aa.out hg))
   replace aa := am (bB aa.out hb)
   replace HB := am (sT HB.out hb)
   clear hb hbox hg
   refine hK.out _ _ ⟨cT aa 0, cT aa 1, cT aa 2, cT aa 3, cT aa 4, cT aa 5, cT aa 6⟩ (fun hHeld => ?_)
   clear hK K
   refine mN 5 ?_
   exact qN (hJ2_5_13 (aH, aI, ad) _ ⟨hHeld, (by (with_reducible repeat (first | apply Kd.R_alloc | apply Kd.R_drewN | apply Kd.R_drew)); exact Kd.R_mono aj.out (fun _ hk => hk.2)), (rT ak.out), (bT aa.out), (bT ah.out), aN.out, aO.out, an.out, aq.out, (eT HB.out)⟩)
 ·skip
  rintro ⟨ae, ac, ad⟩ w16 ⟨hS_, h0_, h1_, h2_, h3_, h4_, h5_, h6_, h7_, h8_, h9_, h10_, h11_, h12_, h13_, h14_, h15_, h16_, h17_, h18_, h19_, h20_, h21_, h22_⟩
  replace aa : Aside0 (w16.heap[ab]? = some (.cells #[.slice aD l0_0.length aE, .slice aF l0_1.length aG, .string a0_2, .string a0_3, .string a0_4, .string a0_5, .string a0_6] 29 (0, 0))) := ⟨h0_⟩
  have af : Aside0 (w16.heap[ae]? = some (.cells #[.slice none 0 0, .slice none 0 0] 25 (0, 0))) := ⟨h1_⟩
  have ag : Aside0 (w16.heap[ac]? = some (.cells #[.string (⟨#[]⟩ : ByteArray), .string (⟨#[]⟩ : ByteArray)] 27 (0, 0))) := ⟨h2_⟩
  have ah : Aside0 (w16.heap[ad]? = some (.cells #[.string (⟨#[]⟩ : ByteArray), .string (⟨#[]⟩ : ByteArray)] 27 (0, 0))) := ⟨h3_⟩
  have aJ : Aside0 (w.heap.size ≤ ae) := ⟨h4_⟩
  have aK : Aside0 (w.heap.size ≤ ae) := ⟨h5_⟩
  have al : Aside0 (ab ≠ ae) := ⟨h6_⟩
  have ap : Aside0 (ae ≠ ab) := ⟨h7_⟩
  have ax : Aside0 (ac ≠ ae) := ⟨h8_⟩
  have ay : Aside0 (ae ≠ ac) := ⟨h9_⟩
  have ar : Aside0 (ad ≠ ae) := ⟨h10_⟩
  have au : Aside0 (ae ≠ ad) := ⟨h11_⟩
  have aL : Aside0 (w.heap.size ≤ ac) := ⟨h12_⟩
  have aM : Aside0 (w.heap.size ≤ ac) := ⟨h13_⟩
  have ai : Aside0 (ab ≠ ac) := ⟨h14_⟩
  have ao : Aside0 (ac ≠ ab) := ⟨h15_⟩
  have av : Aside0 (ad ≠ ac) := ⟨h16_⟩
  have aw : Aside0 (ac ≠ ad) := ⟨h17_⟩
  have aN : Aside0 (w.heap.size ≤ ad) := ⟨h18_⟩
  have aO : Aside0 (w.heap.size ≤ ad) := ⟨h19_⟩
  have an : Aside0 (ab ≠ ad) := ⟨h20_⟩
  have aq : Aside0 (ad ≠ ab) := ⟨h21_⟩
  replace HB : Aside0 (Below w.heap.size w w16) := ⟨h22_⟩
  clear h0_ h1_ h2_ h3_ h4_ h5_ h6_ h7_ h8_ h9_ h10_ h11_ h12_ h13_ h14_ h15_ h16_ h17_ h18_ h19_ h20_ h21_ h22_
  have hHeld := hS_
  (try dsimp only at hHeld)
  refine rN ?_
  refine oT 2 (bA 18 16095) HT_.out fun K hK => ?_
  refine gS Tryd.func7 #[.agg #[.slice aD l0_0.length aE, .slice aF l0_1.length aG]] ?_
  with_reducible refine (graftwoodlaw12_Few.calls k _ _ l0_0 _ _ l0_1 az aA _ ?side1 ?side2 ?side3 ?side4 A2.out).mono ?_
  (case side1 => exact cW (Kd.C_below b2.out HB.out))
  (case side2 => exact b3.out)
  (case side3 => exact cW (Kd.C_below b4.out HB.out))
  (case side4 => exact b5.out)
  rintro e w17 ⟨aH, aI, rfl, ho0, ho1, hb⟩
  refine ⟨_, rfl, ?_⟩
  have aj := am (Kd.R_lower (Kd.R_newB (Kd.R_newB ho0 (g := ac) (o := .cells #[.string (⟨#[]⟩ : ByteArray), .string (⟨#[]⟩ : ByteArray)] 27 (0, 0)) (bT ag.out)) (g := ad) (o := .cells #[.string (⟨#[]⟩ : ByteArray), .string (⟨#[]⟩ : ByteArray)] 27 (0, 0)) (bT ah.out)) (below_size (eT HB.out)))
  have ak := am (Kd.R_lower ho1 (below_size (eT HB.out)))
  replace aa := am (bB aa.out hb)
  replace af := am (bB af.out hb)
  replace ag := am (bB ag.out hb)
  replace ah := am (bB ah.out hb)
  replace HB := am (sT HB.out hb)
  (try clear hb)
  (try clear hb2)
  (try clear hk)
  (try clear hi)
  (try clear ho0)
  (try clear ho1)
  refine hK.out _ _ ⟨cT aa 0, cT aa 1, cT aa 2, cT aa 3, cT aa 4, cT aa 5, cT aa 6⟩ (fun hHeld => ?_)
  clear hK K
  refine mN 23 ?_
  exact qN (hJ2_11_12_13 (aH, aI, ae, ac, ad) _ ⟨hHeld, (by (with_reducible repeat (first | apply Kd.R_alloc | apply Kd.R_drewN | apply Kd.R_drew)); exact Kd.R_mono aj.out (fun _ hk => ⟨hk.1.2, hk.2⟩)), (rT ak.out), (bT aa.out), (bT af.out), (bT ag.out), (bT ah.out), aJ.out, aK.out, al.out, ap.out, ax.out, ay.out, ar.out, au.out, aL.out, aM.out, ai.out, ao.out, av.out, aw.out, aN.out, aO.out, an.out, aq.out, (eT HB.out)⟩)
 ·as_aux_lemma =>
  skip
  rintro ⟨aH, aI, ac, ad⟩ w16 ⟨hS_, h0_, h1_, h2_, h3_, h4_, h5_, h6_, h7_, h8_, h9_, h10_, h11_, h12_, h13_, h14_, h15_⟩
  have aj : Aside0 (Kd.R k27 27 w16 w.heap.size (fun k_ => k_ ≠ ac ∧ k_ ≠ ad) aH az) := ⟨h0_⟩
  have ak : Aside0 (Kd.R Kd.string 9 w16 w.heap.size (fun _ => True) aI aA) := ⟨h1_⟩
  replace aa : Aside0 (w16.heap[ab]? = some (.cells #[.slice aD l0_0.length aE, .slice aF l0_1.length aG, .string a0_2, .string a0_3, .string a0_4, .string a0_5, .string a0_6] 29 (0, 0))) := ⟨h2_⟩
  have ag : Aside0 (w16.heap[ac]? = some (.cells #[.string (⟨#[]⟩ : ByteArray), .string (⟨#[]⟩ : ByteArray)] 27 (0, 0))) := ⟨h3_⟩
  have ah : Aside0 (w16.heap[ad]? = some (.cells #[.string (⟨#[]⟩ : ByteArray), .string (⟨#[]⟩ : ByteArray)] 27 (0, 0))) := ⟨h4_⟩
  have aL : Aside0 (w.heap.size ≤ ac) := ⟨h5_⟩
  have aM : Aside0 (w.heap.size ≤ ac) := ⟨h6_⟩
  have ai : Aside0 (ab ≠ ac) := ⟨h7_⟩
  have ao : Aside0 (ac ≠ ab) := ⟨h8_⟩
  have av : Aside0 (ad ≠ ac) := ⟨h9_⟩
  have aw : Aside0 (ac ≠ ad) := ⟨h10_⟩
  have aN : Aside0 (w.heap.size ≤ ad) := ⟨h11_⟩
  have aO : Aside0 (w.heap.size ≤ ad) := ⟨h12_⟩
  have an : Aside0 (ab ≠ ad) := ⟨h13_⟩
  have aq : Aside0 (ad ≠ ab) := ⟨h14_⟩
  replace HB : Aside0 (Below w.heap.size w w16) := ⟨h15_⟩
  clear h0_ h1_ h2_ h3_ h4_ h5_ h6_ h7_ h8_ h9_ h10_ h11_ h12_ h13_ h14_ h15_
  have hHeld := hS_
  (try dsimp only at hHeld)
  refine rN ?_
  refine dT (some 26) (some 3) 5 11 (bA 18 14079) (bA 18 16095) HT_.out (fun K hK => ?_) (fun K hK => ?_)
  ·skip
   refine gS Tryd.func8 #[.agg #[.string a0_2, .string a0_3]] ?_
   with_reducible refine (graftwoodlaw05_One.calls a0_2 a0_3 aB aC _ A3.out).mono ?_
   rintro e w17 ⟨rfl, hb⟩
   refine ⟨_, rfl, ?_⟩
   replace aj := am (rB aj.out hb)
   replace ak := am (rB ak.out hb)
   replace aa := am (bB aa.out hb)
   replace ag := am (bB ag.out hb)
   replace ah := am (bB ah.out hb)
   replace HB := am (sT HB.out hb)
   (try clear hb)
   (try clear hb2)
   (try clear hk)
   (try clear hi)
   refine hK.out _ _ ⟨cT aa 0, cT aa 1, cT aa 2, cT aa 3, cT aa 4, cT aa 5, cT aa 6⟩ (fun hHeld => ?_)
   clear hK K
   refine mN 26 ?_
   exact qN (hJ2_5_12_13 (aH, aI, ac, ad) _ ⟨hHeld, (rT aj.out), (rT ak.out), (bT aa.out), (bT ag.out), (bT ah.out), aL.out, aM.out, ai.out, ao.out, av.out, aw.out, aN.out, aO.out, an.out, aq.out, (eT HB.out)⟩)
  ·skip
   refine box_step ?hg (N := 3) ?hd (cs := #[.slice none 0 0, .slice none 0 0]) (t := 25) ?hr ?_; (case hd => rfl); (case hg => rfl); (case hr => first | (go_simp; done) | (go_simp; rfl))
   intro ae hg w17 hbox hb
   replace aj := am (rB aj.out hb)
   replace ak := am (rB ak.out hb)
   have af := am (hbox)
   have aJ := am ((gT hg HB.out))
   have aK := am ((gT hg HB.out))
   have al := am ((nT aa.out hg))
   have ap := am ((mT aa.out hg))
   have ax := am ((nT ag.out hg))
   have ay := am ((mT ag.out hg))
   have ar := am ((nT ah.out hg))
   have au := am ((mT ah.out hg))
   replace aa := am (bB aa.out hb)
   replace ag := am (bB ag.out hb)
   replace ah := am (bB ah.out hb)
   replace HB := am (sT HB.out hb)
   clear hb hbox hg
   refine hK.out _ _ ⟨cT aa 0, cT aa 1, cT aa 2, cT aa 3, cT aa 4, cT aa 5, cT aa 6⟩ (fun hHeld => ?_)
   clear hK K
   refine mN 3 ?_
   exact qN (hJ2_11_12_13 (aH, aI, ae, ac, ad) _ ⟨hHeld, (rT aj.out), (rT ak.out), (bT aa.out), (bT af.out), (bT ag.out), (bT ah.out), aJ.out, aK.out, al.out, ap.out, ax.out, ay.out, ar.out, au.out, aL.out, aM.out, ai.out, ao.out, av.out, aw.out, aN.out, aO.out, an.out, aq.out, (eT HB.out)⟩)
 ·as_aux_lemma =>
  skip
  rintro ⟨aH, aI, ae, ad⟩ w16 ⟨hS_, h0_, h1_, h2_, h3_, h4_, h5_, h6_, h7_, h8_, h9_, h10_, h11_, h12_, h13_, h14_, h15_⟩
  have aj : Aside0 (Kd.R k27 27 w16 w.heap.size (fun k_ => k_ ≠ ad) aH az) := ⟨h0_⟩
  have ak : Aside0 (Kd.R Kd.string 9 w16 w.heap.size (fun _ => True) aI aA) := ⟨h1_⟩
  replace aa : Aside0 (w16.heap[ab]? = some (.cells #[.slice aD l0_0.length aE, .slice aF l0_1.length aG, .string a0_2, .string a0_3, .string a0_4, .string a0_5, .string a0_6] 29 (0, 0))) := ⟨h2_⟩
  have af : Aside0 (w16.heap[ae]? = some (.cells #[.slice none 0 0, .slice none 0 0] 25 (0, 0))) := ⟨h3_⟩
  have ah : Aside0 (w16.heap[ad]? = some (.cells #[.string (⟨#[]⟩ : ByteArray), .string (⟨#[]⟩ : ByteArray)] 27 (0, 0))) := ⟨h4_⟩
  have aJ : Aside0 (w.heap.size ≤ ae) := ⟨h5_⟩
  have aK : Aside0 (w.heap.size ≤ ae) := ⟨h6_⟩
  have al : Aside0 (ab ≠ ae) := ⟨h7_⟩
  have ap : Aside0 (ae ≠ ab) := ⟨h8_⟩
  have ar : Aside0 (ad ≠ ae) := ⟨h9_⟩
  have au : Aside0 (ae ≠ ad) := ⟨h10_⟩
  have aN : Aside0 (w.heap.size ≤ ad) := ⟨h11_⟩
  have aO : Aside0 (w.heap.size ≤ ad) := ⟨h12_⟩
  have an : Aside0 (ab ≠ ad) := ⟨h13_⟩
  have aq : Aside0 (ad ≠ ab) := ⟨h14_⟩
  replace HB : Aside0 (Below w.heap.size w w16) := ⟨h15_⟩
  clear h0_ h1_ h2_ h3_ h4_ h5_ h6_ h7_ h8_ h9_ h10_ h11_ h12_ h13_ h14_ h15_
  have hHeld := hS_
  (try dsimp only at hHeld)
  refine rN ?_
  refine dT (some 26) (some 4) 5 12 (bA 18 12031) (bA 18 16095) HT_.out (fun K hK => ?_) (fun K hK => ?_)
  ·skip
   refine gS Tryd.func8 #[.agg #[.string a0_2, .string a0_3]] ?_
   with_reducible refine (graftwoodlaw05_One.calls a0_2 a0_3 aB aC _ A3.out).mono ?_
   rintro e w17 ⟨rfl, hb⟩
   refine ⟨_, rfl, ?_⟩
   replace aj := am (rB aj.out hb)
   replace ak := am (rB ak.out hb)
   replace aa := am (bB aa.out hb)
   replace af := am (bB af.out hb)
   replace ah := am (bB ah.out hb)
   replace HB := am (sT HB.out hb)
   (try clear hb)
   (try clear hb2)
   (try clear hk)
   (try clear hi)
   refine hK.out _ _ ⟨cT aa 0, cT aa 1, cT aa 2, cT aa 3, cT aa 4, cT aa 5, cT aa 6⟩ (fun hHeld => ?_)
   clear hK K
   refine mN 26 ?_
   exact qN (hJ2_5_11_13 (aH, aI, ae, ad) _ ⟨hHeld, (rT aj.out), (rT ak.out), (bT aa.out), (bT af.out), (bT ah.out), aJ.out, aK.out, al.out, ap.out, ar.out, au.out, aN.out, aO.out, an.out, aq.out, (eT HB.out)⟩)
  ·skip
   refine box_step ?hg (N := 4) ?hd (cs := #[.string (⟨#[]⟩ : ByteArray), .string (⟨#[]⟩ : ByteArray)]) (t := 27) ?hr ?_; (case hd => rfl); (case hg => rfl); (case hr => first | (go_simp; done) | (go_simp; rfl))
   intro ac hg w17 hbox hb
   replace aj := am (Kd.R_below (Kd.R_elderB (rT aj.out) ac (Nat.le_of_eq hg.symm)) hb)
   replace ak := am (rB ak.out hb)
   have ag := am (hbox)
   have aL := am ((gT hg HB.out))
   have aM := am ((gT hg HB.out))
   have ai := am ((nT aa.out hg))
   have ao := am ((mT aa.out hg))
   have ay := am ((nT af.out hg))
   have ax := am ((mT af.out hg))
   have av := am ((nT ah.out hg))
   have aw := am ((mT ah.out hg))
   replace aa := am (bB aa.out hb)
   replace af := am (bB af.out hb)
   replace ah := am (bB ah.out hb)
   replace HB := am (sT HB.out hb)
   clear hb hbox hg
   refine hK.out _ _ ⟨cT aa 0, cT aa 1, cT aa 2, cT aa 3, cT aa 4, cT aa 5, cT aa 6⟩ (fun hHeld => ?_)
   clear hK K
   refine mN 4 ?_
   exact qN (hJ2_11_12_13 (aH, aI, ae, ac, ad) _ ⟨hHeld, (by (with_reducible repeat (first | apply Kd.R_alloc | apply Kd.R_drewN | apply Kd.R_drew)); exact Kd.R_mono aj.out (fun _ hk => ⟨hk.2, hk.1⟩)), (rT ak.out), (bT aa.out), (bT af.out), (bT ag.out), (bT ah.out), aJ.out, aK.out, al.out, ap.out, ax.out, ay.out, ar.out, au.out, aL.out, aM.out, ai.out, ao.out, av.out, aw.out, aN.out, aO.out, an.out, aq.out, (eT HB.out)⟩)
 ·as_aux_lemma =>
  skip
  rintro ⟨aH, aI, ae, ac⟩ w16 ⟨hS_, h0_, h1_, h2_, h3_, h4_, h5_, h6_, h7_, h8_, h9_, h10_, h11_, h12_, h13_, h14_, h15_⟩
  have aj : Aside0 (Kd.R k27 27 w16 w.heap.size (fun k_ => k_ ≠ ac) aH az) := ⟨h0_⟩
  have ak : Aside0 (Kd.R Kd.string 9 w16 w.heap.size (fun _ => True) aI aA) := ⟨h1_⟩
  replace aa : Aside0 (w16.heap[ab]? = some (.cells #[.slice aD l0_0.length aE, .slice aF l0_1.length aG, .string a0_2, .string a0_3, .string a0_4, .string a0_5, .string a0_6] 29 (0, 0))) := ⟨h2_⟩
  have af : Aside0 (w16.heap[ae]? = some (.cells #[.slice none 0 0, .slice none 0 0] 25 (0, 0))) := ⟨h3_⟩
  have ag : Aside0 (w16.heap[ac]? = some (.cells #[.string (⟨#[]⟩ : ByteArray), .string (⟨#[]⟩ : ByteArray)] 27 (0, 0))) := ⟨h4_⟩
  have aJ : Aside0 (w.heap.size ≤ ae) := ⟨h5_⟩
  have aK : Aside0 (w.heap.size ≤ ae) := ⟨h6_⟩
  have al : Aside0 (ab ≠ ae) := ⟨h7_⟩
  have ap : Aside0 (ae ≠ ab) := ⟨h8_⟩
  have ax : Aside0 (ac ≠ ae) := ⟨h9_⟩
  have ay : Aside0 (ae ≠ ac) := ⟨h10_⟩
  have aL : Aside0 (w.heap.size ≤ ac) := ⟨h11_⟩
  have aM : Aside0 (w.heap.size ≤ ac) := ⟨h12_⟩
  have ai : Aside0 (ab ≠ ac) := ⟨h13_⟩
  have ao : Aside0 (ac ≠ ab) := ⟨h14_⟩
  replace HB : Aside0 (Below w.heap.size w w16) := ⟨h15_⟩
  clear h0_ h1_ h2_ h3_ h4_ h5_ h6_ h7_ h8_ h9_ h10_ h11_ h12_ h13_ h14_ h15_
  have hHeld := hS_
  (try dsimp only at hHeld)
  refine rN ?_
  refine dT (some 26) (some 5) 5 13 (bA 18 7935) (bA 18 16095) HT_.out (fun K hK => ?_) (fun K hK => ?_)
  ·skip
   refine gS Tryd.func8 #[.agg #[.string a0_2, .string a0_3]] ?_
   with_reducible refine (graftwoodlaw05_One.calls a0_2 a0_3 aB aC _ A3.out).mono ?_
   rintro e w17 ⟨rfl, hb⟩
   refine ⟨_, rfl, ?_⟩
   replace aj := am (rB aj.out hb)
   replace ak := am (rB ak.out hb)
   replace aa := am (bB aa.out hb)
   replace af := am (bB af.out hb)
   replace ag := am (bB ag.out hb)
   replace HB := am (sT HB.out hb)
   (try clear hb)
   (try clear hb2)
   (try clear hk)
   (try clear hi)
   refine hK.out _ _ ⟨cT aa 0, cT aa 1, cT aa 2, cT aa 3, cT aa 4, cT aa 5, cT aa 6⟩ (fun hHeld => ?_)
   clear hK K
   refine mN 26 ?_
   exact qN (hJ2_5_11_12 (aH, aI, ae, ac) _ ⟨hHeld, (rT aj.out), (rT ak.out), (bT aa.out), (bT af.out), (bT ag.out), aJ.out, aK.out, al.out, ap.out, ax.out, ay.out, aL.out, aM.out, ai.out, ao.out, (eT HB.out)⟩)
  ·skip
   refine box_step ?hg (N := 5) ?hd (cs := #[.string (⟨#[]⟩ : ByteArray), .string (⟨#[]⟩ : ByteArray)]) (t := 27) ?hr ?_; (case hd => rfl); (case hg => rfl); (case hr => first | (go_simp; done) | (go_simp; rfl))
   intro ad hg w17 hbox hb
   replace aj := am (Kd.R_below (Kd.R_elderB (rT aj.out) ad (Nat.le_of_eq hg.symm)) hb)
   replace ak := am (rB ak.out hb)
   have ah := am (hbox)
   have aN := am ((gT hg HB.out))
   have aO := am ((gT hg HB.out))
   have an := am ((nT aa.out hg))
   have aq := am ((mT aa.out hg))
   have au := am ((nT af.out hg))
   have ar := am ((mT af.out hg))
   have aw := am ((nT ag.out hg))
   have av := am ((mT ag.out hg))
   replace aa := am (bB aa.out hb)
   replace af := am (bB af.out hb)
   replace ag := am (bB ag.out hb)
   replace HB := am (sT HB.out hb)
   clear hb hbox hg
   refine hK.out _ _ ⟨cT aa 0, cT aa 1, cT aa 2, cT aa 3, cT aa 4, cT aa 5, cT aa 6⟩ (fun hHeld => ?_)
   clear hK K
   refine mN 5 ?_
   exact qN (hJ2_11_12_13 (aH, aI, ae, ac, ad) _ ⟨hHeld, (rT aj.out), (rT ak.out), (bT aa.out), (bT af.out), (bT ag.out), (bT ah.out), aJ.out, aK.out, al.out, ap.out, ax.out, ay.out, ar.out, au.out, aL.out, aM.out, ai.out, ao.out, av.out, aw.out, aN.out, aO.out, an.out, aq.out, (eT HB.out)⟩)
 ·as_aux_lemma =>
  skip
  rintro ⟨aH, aI, ad⟩ w16 ⟨hS_, h0_, h1_, h2_, h3_, h4_, h5_, h6_, h7_, h8_⟩
  have aj : Aside0 (Kd.R k27 27 w16 w.heap.size (fun k_ => k_ ≠ ad) aH az) := ⟨h0_⟩
  have ak : Aside0 (Kd.R Kd.string 9 w16 w.heap.size (fun _ => True) aI aA) := ⟨h1_⟩
  replace aa : Aside0 (w16.heap[ab]? = some (.cells #[.slice aD l0_0.length aE, .slice aF l0_1.length aG, .string a0_2, .string a0_3, .string a0_4, .string a0_5, .string a0_6] 29 (0, 0))) := ⟨h2_⟩
  have ah : Aside0 (w16.heap[ad]? = some (.cells #[.string (⟨#[]⟩ : ByteArray), .string (⟨#[]⟩ : ByteArray)] 27 (0, 0))) := ⟨h3_⟩
  have aN : Aside0 (w.heap.size ≤ ad) := ⟨h4_⟩
  have aO : Aside0 (w.heap.size ≤ ad) := ⟨h5_⟩
  have an : Aside0 (ab ≠ ad) := ⟨h6_⟩
  have aq : Aside0 (ad ≠ ab) := ⟨h7_⟩
  replace HB : Aside0 (Below w.heap.size w w16) := ⟨h8_⟩
  clear h0_ h1_ h2_ h3_ h4_ h5_ h6_ h7_ h8_
  have hHeld := hS_
  (try dsimp only at hHeld)
  refine rN ?_
  refine eT3 (some 29) (some 3) (some 4) 8 11 12 (bA 18 10239) (bA 18 12031) (bA 18 14079) HT_.out (fun K hK => ?_) (fun K hK => ?_) (fun K hK => ?_)
  ·skip
   refine gS Tryd.func8 #[.agg #[.string a0_4, .string a0_5]] ?_
   with_reducible refine (graftwoodlaw05_One.calls a0_4 a0_5 aP aQ _ A4.out).mono ?_
   rintro e w17 ⟨rfl, hb⟩
   refine ⟨_, rfl, ?_⟩
   replace aj := am (rB aj.out hb)
   replace ak := am (rB ak.out hb)
   replace aa := am (bB aa.out hb)
   replace ah := am (bB ah.out hb)
   replace HB := am (sT HB.out hb)
   (try clear hb)
   (try clear hb2)
   (try clear hk)
   (try clear hi)
   refine hK.out _ _ ⟨cT aa 0, cT aa 1, cT aa 2, cT aa 3, cT aa 4, cT aa 5, cT aa 6⟩ (fun hHeld => ?_)
   clear hK K
   refine mN 29 ?_
   exact qN (hJ2_5_8_13 (aH, aI, ad) _ ⟨hHeld, (rT aj.out), (rT ak.out), (bT aa.out), (bT ah.out), aN.out, aO.out, an.out, aq.out, (eT HB.out)⟩)
  ·skip
   refine box_step ?hg (N := 3) ?hd (cs := #[.slice none 0 0, .slice none 0 0]) (t := 25) ?hr ?_; (case hd => rfl); (case hg => rfl); (case hr => first | (go_simp; done) | (go_simp; rfl))
   intro ae hg w17 hbox hb
   replace aj := am (rB aj.out hb)
   replace ak := am (rB ak.out hb)
   have af := am (hbox)
   have aJ := am ((gT hg HB.out))
   have aK := am ((gT hg HB.out))
   have al := am ((nT aa.out hg))
   have ap := am ((mT aa.out hg))
   have ar := am ((nT ah.out hg))
   have au := am ((mT ah.out hg))
   replace aa := am (bB aa.out hb)
   replace ah := am (bB ah.out hb)
   replace HB := am (sT HB.out hb)
   clear hb hbox hg
   refine hK.out _ _ ⟨cT aa 0, cT aa 1, cT aa 2, cT aa 3, cT aa 4, cT aa 5, cT aa 6⟩ (fun hHeld => ?_)
   clear hK K
   refine mN 3 ?_
   exact qN (hJ2_5_11_13 (aH, aI, ae, ad) _ ⟨hHeld, (rT aj.out), (rT ak.out), (bT aa.out), (bT af.out), (bT ah.out), aJ.out, aK.out, al.out, ap.out, ar.out, au.out, aN.out, aO.out, an.out, aq.out, (eT HB.out)⟩)
  ·skip
   refine box_step ?hg (N := 4) ?hd (cs := #[.string (⟨#[]⟩ : ByteArray), .string (⟨#[]⟩ : ByteArray)]) (t := 27) ?hr ?_; (case hd => rfl); (case hg => rfl); (case hr => first | (go_simp; done) | (go_simp; rfl))
   intro ac hg w17 hbox hb
   replace aj := am (Kd.R_below (Kd.R_elderB (rT aj.out) ac (Nat.le_of_eq hg.symm)) hb)
   replace ak := am (rB ak.out hb)
   have ag := am (hbox)
   have aL := am ((gT hg HB.out))
   have aM := am ((gT hg HB.out))
   have ai := am ((nT aa.out hg))
   have ao := am ((mT aa.out hg))
   have av := am ((nT ah.out hg))
   have aw := am ((mT ah.out hg))
   replace aa := am (bB aa.out hb)
   replace ah := am (bB ah.out hb)
   replace HB := am (sT HB.out hb)
   clear hb hbox hg
   refine hK.out _ _ ⟨cT aa 0, cT aa 1, cT aa 2, cT aa 3, cT aa 4, cT aa 5, cT aa 6⟩ (fun hHeld => ?_)
   clear hK K
   refine mN 4 ?_
   exact qN (hJ2_5_12_13 (aH, aI, ac, ad) _ ⟨hHeld, (by (with_reducible repeat (first | apply Kd.R_alloc | apply Kd.R_drewN | apply Kd.R_drew)); exact Kd.R_mono aj.out (fun _ hk => ⟨hk.2, hk.1⟩)), (rT ak.out), (bT aa.out), (bT ag.out), (bT ah.out), aL.out, aM.out, ai.out, ao.out, av.out, aw.out, aN.out, aO.out, an.out, aq.out, (eT HB.out)⟩)
 ·as_aux_lemma =>
  skip
  rintro ⟨aH, aI, ac⟩ w16 ⟨hS_, h0_, h1_, h2_, h3_, h4_, h5_, h6_, h7_, h8_⟩
  have aj : Aside0 (Kd.R k27 27 w16 w.heap.size (fun k_ => k_ ≠ ac) aH az) := ⟨h0_⟩
  have ak : Aside0 (Kd.R Kd.string 9 w16 w.heap.size (fun _ => True) aI aA) := ⟨h1_⟩
  replace aa : Aside0 (w16.heap[ab]? = some (.cells #[.slice aD l0_0.length aE, .slice aF l0_1.length aG, .string a0_2, .string a0_3, .string a0_4, .string a0_5, .string a0_6] 29 (0, 0))) := ⟨h2_⟩
  have ag : Aside0 (w16.heap[ac]? = some (.cells #[.string (⟨#[]⟩ : ByteArray), .string (⟨#[]⟩ : ByteArray)] 27 (0, 0))) := ⟨h3_⟩
  have aL : Aside0 (w.heap.size ≤ ac) := ⟨h4_⟩
  have aM : Aside0 (w.heap.size ≤ ac) := ⟨h5_⟩
  have ai : Aside0 (ab ≠ ac) := ⟨h6_⟩
  have ao : Aside0 (ac ≠ ab) := ⟨h7_⟩
  replace HB : Aside0 (Below w.heap.size w w16) := ⟨h8_⟩
  clear h0_ h1_ h2_ h3_ h4_ h5_ h6_ h7_ h8_
  have hHeld := hS_
  (try dsimp only at hHeld)
  refine rN ?_
  refine eT3 (some 29) (some 3) (some 5) 8 11 13 (bA 18 6143) (bA 18 7935) (bA 18 14079) HT_.out (fun K hK => ?_) (fun K hK => ?_) (fun K hK => ?_)
  ·skip
   refine gS Tryd.func8 #[.agg #[.string a0_4, .string a0_5]] ?_
   with_reducible refine (graftwoodlaw05_One.calls a0_4 a0_5 aP aQ _ A4.out).mono ?_
   rintro e w17 ⟨rfl, hb⟩
   refine ⟨_, rfl, ?_⟩
   replace aj := am (rB aj.out hb)
   replace ak := am (rB ak.out hb)
   replace aa := am (bB aa.out hb)
   replace ag := am (bB ag.out hb)
   replace HB := am (sT HB.out hb)
   (try clear hb)
   (try clear hb2)
   (try clear hk)
   (try clear hi)
   refine hK.out _ _ ⟨cT aa 0, cT aa 1, cT aa 2, cT aa 3, cT aa 4, cT aa 5, cT aa 6⟩ (fun hHeld => ?_)
   clear hK K
   refine mN 29 ?_
   exact qN (hJ2_5_8_12 (aH, aI, ac) _ ⟨hHeld, (rT aj.out), (rT ak.out), (bT aa.out), (bT ag.out), aL.out, aM.out, ai.out, ao.out, (eT HB.out)⟩)
  ·skip
   refine box_step ?hg (N := 3) ?hd (cs := #[.slice none 0 0, .slice none 0 0]) (t := 25) ?hr ?_; (case hd => rfl); (case hg => rfl); (case hr => first | (go_simp; done) | (go_simp; rfl))
   intro ae hg w17 hbox hb
   replace aj := am (rB aj.out hb)
   replace ak := am (rB ak.out hb)
   have af := am (hbox)
   have aJ := am ((gT hg HB.out))
   have aK := am ((gT hg HB.out))
   have al := am ((nT aa.out hg))
   have ap := am ((mT aa.out hg))
   have ax := am ((nT ag.out hg))
   have ay := am ((mT ag.out hg))
   replace aa := am (bB aa.out hb)
   replace ag := am (bB ag.out hb)
   replace HB := am (sT HB.out hb)
   clear hb hbox hg
   refine hK.out _ _ ⟨cT aa 0, cT aa 1, cT aa 2, cT aa 3, cT aa 4, cT aa 5, cT aa 6⟩ (fun hHeld => ?_)
   clear hK K
   refine mN 3 ?_
   exact qN (hJ2_5_11_12 (aH, aI, ae, ac) _ ⟨hHeld, (rT aj.out), (rT ak.out), (bT aa.out), (bT af.out), (bT ag.out), aJ.out, aK.out, al.out, ap.out, ax.out, ay.out, aL.out, aM.out, ai.out, ao.out, (eT HB.out)⟩)
  ·skip
   refine box_step ?hg (N := 5) ?hd (cs := #[.string (⟨#[]⟩ : ByteArray), .string (⟨#[]⟩ : ByteArray)]) (t := 27) ?hr ?_; (case hd => rfl); (case hg => rfl); (case hr => first | (go_simp; done) | (go_simp; rfl))
   intro ad hg w17 hbox hb
   replace aj := am (Kd.R_below (Kd.R_elderB (rT aj.out) ad (Nat.le_of_eq hg.symm)) hb)
   replace ak := am (rB ak.out hb)
   have ah := am (hbox)
   have aN := am ((gT hg HB.out))
   have aO := am ((gT hg HB.out))
   have an := am ((nT aa.out hg))
   have aq := am ((mT aa.out hg))
   have aw := am ((nT ag.out hg))
   have av := am ((mT ag.out hg))
   replace aa := am (bB aa.out hb)
   replace ag := am (bB ag.out hb)
   replace HB := am (sT HB.out hb)
   clear hb hbox hg
   refine hK.out _ _ ⟨cT aa 0, cT aa 1, cT aa 2, cT aa 3, cT aa 4, cT aa 5, cT aa 6⟩ (fun hHeld => ?_)
   clear hK K
   refine mN 5 ?_
   exact qN (hJ2_5_12_13 (aH, aI, ac, ad) _ ⟨hHeld, (rT aj.out), (rT ak.out), (bT aa.out), (bT ag.out), (bT ah.out), aL.out, aM.out, ai.out, ao.out, av.out, aw.out, aN.out, aO.out, an.out, aq.out, (eT HB.out)⟩)
 ·as_aux_lemma =>
  skip
  rintro ⟨aH, aI, ae⟩ w16 ⟨hS_, h0_, h1_, h2_, h3_, h4_, h5_, h6_, h7_, h8_⟩
  have aj : Aside0 (Kd.R k27 27 w16 w.heap.size (fun _ => True) aH az) := ⟨h0_⟩
  have ak : Aside0 (Kd.R Kd.string 9 w16 w.heap.size (fun _ => True) aI aA) := ⟨h1_⟩
  replace aa : Aside0 (w16.heap[ab]? = some (.cells #[.slice aD l0_0.length aE, .slice aF l0_1.length aG, .string a0_2, .string a0_3, .string a0_4, .string a0_5, .string a0_6] 29 (0, 0))) := ⟨h2_⟩
  have af : Aside0 (w16.heap[ae]? = some (.cells #[.slice none 0 0, .slice none 0 0] 25 (0, 0))) := ⟨h3_⟩
  have aJ : Aside0 (w.heap.size ≤ ae) := ⟨h4_⟩
  have aK : Aside0 (w.heap.size ≤ ae) := ⟨h5_⟩
  have al : Aside0 (ab ≠ ae) := ⟨h6_⟩
  have ap : Aside0 (ae ≠ ab) := ⟨h7_⟩
  replace HB : Aside0 (Below w.heap.size w w16) := ⟨h8_⟩
  clear h0_ h1_ h2_ h3_ h4_ h5_ h6_ h7_ h8_
  have hHeld := hS_
  (try dsimp only at hHeld)
  refine rN ?_
  refine eT3 (some 29) (some 4) (some 5) 8 12 13 (bA 18 4095) (bA 18 7935) (bA 18 12031) HT_.out (fun K hK => ?_) (fun K hK => ?_) (fun K hK => ?_)
  ·skip
   refine gS Tryd.func8 #[.agg #[.string a0_4, .string a0_5]] ?_
   with_reducible refine (graftwoodlaw05_One.calls a0_4 a0_5 aP aQ _ A4.out).mono ?_
   rintro e w17 ⟨rfl, hb⟩
   refine ⟨_, rfl, ?_⟩
   replace aj := am (rB aj.out hb)
   replace ak := am (rB ak.out hb)
   replace aa := am (bB aa.out hb)
   replace af := am (bB af.out hb)
   replace HB := am (sT HB.out hb)
   (try clear hb)
   (try clear hb2)
   (try clear hk)
   (try clear hi)
   refine hK.out _ _ ⟨cT aa 0, cT aa 1, cT aa 2, cT aa 3, cT aa 4, cT aa 5, cT aa 6⟩ (fun hHeld => ?_)
   clear hK K
   refine mN 29 ?_
   exact qN (hJ2_5_8_11 (aH, aI, ae) _ ⟨hHeld, (rT aj.out), (rT ak.out), (bT aa.out), (bT af.out), aJ.out, aK.out, al.out, ap.out, (eT HB.out)⟩)
  ·skip
   refine box_step ?hg (N := 4) ?hd (cs := #[.string (⟨#[]⟩ : ByteArray), .string (⟨#[]⟩ : ByteArray)]) (t := 27) ?hr ?_; (case hd => rfl); (case hg => rfl); (case hr => first | (go_simp; done) | (go_simp; rfl))
   intro ac hg w17 hbox hb
   replace aj := am (Kd.R_below (Kd.R_elderB (rT aj.out) ac (Nat.le_of_eq hg.symm)) hb)
   replace ak := am (rB ak.out hb)
   have ag := am (hbox)
   have aL := am ((gT hg HB.out))
   have aM := am ((gT hg HB.out))
   have ai := am ((nT aa.out hg))
   have ao := am ((mT aa.out hg))
   have ay := am ((nT af.out hg))
   have ax := am ((mT af.out hg))
   replace aa := am (bB aa.out hb)
   replace af := am (bB af.out hb)
   replace HB := am (sT HB.out hb)
   clear hb hbox hg
   refine hK.out _ _ ⟨cT aa 0, cT aa 1, cT aa 2, cT aa 3, cT aa 4, cT aa 5, cT aa 6⟩ (fun hHeld => ?_)
   clear hK K
   refine mN 4 ?_
   exact qN (hJ2_5_11_12 (aH, aI, ae, ac) _ ⟨hHeld, (by (with_reducible repeat (first | apply Kd.R_alloc | apply Kd.R_drewN | apply Kd.R_drew)); exact Kd.R_mono aj.out (fun _ hk => hk.2)), (rT ak.out), (bT aa.out), (bT af.out), (bT ag.out), aJ.out, aK.out, al.out, ap.out, ax.out, ay.out, aL.out, aM.out, ai.out, ao.out, (eT HB.out)⟩)
  ·skip
   refine box_step ?hg (N := 5) ?hd (cs := #[.string (⟨#[]⟩ : ByteArray), .string (⟨#[]⟩ : ByteArray)]) (t := 27) ?hr ?_; (case hd => rfl); (case hg => rfl); (case hr => first | (go_simp; done) | (go_simp; rfl))
   intro ad hg w17 hbox hb
   replace aj := am (Kd.R_below (Kd.R_elderB (rT aj.out) ad (Nat.le_of_eq hg.symm)) hb)
   replace ak := am (rB ak.out hb)
   have ah := am (hbox)
   have aN := am ((gT hg HB.out))
   have aO := am ((gT hg HB.out))
   have an := am ((nT aa.out hg))
   have aq := am ((mT aa.out hg))
   have au := am ((nT af.out hg))
   have ar := am ((mT af.out hg))
   replace aa := am (bB aa.out hb)
   replace af := am (bB af.out hb)
   replace HB := am (sT HB.out hb)
   clear hb hbox hg
   refine hK.out _ _ ⟨cT aa 0, cT aa 1, cT aa 2, cT aa 3, cT aa 4, cT aa 5, cT aa 6⟩ (fun hHeld => ?_)
   clear hK K
   refine mN 5 ?_
   exact qN (hJ2_5_11_13 (aH, aI, ae, ad) _ ⟨hHeld, (by (with_reducible repeat (first | apply Kd.R_alloc | apply Kd.R_drewN | apply Kd.R_drew)); exact Kd.R_mono aj.out (fun _ hk => hk.2)), (rT ak.out), (bT aa.out), (bT af.out), (bT ah.out), aJ.out, aK.out, al.out, ap.out, ar.out, au.out, aN.out, aO.out, an.out, aq.out, (eT HB.out)⟩)
 ·as_aux_lemma =>
  skip
  rintro ⟨aH, aI⟩ w16 ⟨hS_, h0_, h1_, h2_, h3_⟩
  have aj : Aside0 (Kd.R k27 27 w16 w.heap.size (fun _ => True) aH az) := ⟨h0_⟩
  have ak : Aside0 (Kd.R Kd.string 9 w16 w.heap.size (fun _ => True) aI aA) := ⟨h1_⟩
  replace aa : Aside0 (w16.heap[ab]? = some (.cells #[.slice aD l0_0.length aE, .slice aF l0_1.length aG, .string a0_2, .string a0_3, .string a0_4, .string a0_5, .string a0_6] 29 (0, 0))) := ⟨h2_⟩
  replace HB : Aside0 (Below w.heap.size w w16) := ⟨h3_⟩
  clear h0_ h1_ h2_ h3_
  have hHeld := hS_
  (try dsimp only at hHeld)
  refine rN ?_
  refine eT3 (some 3) (some 4) (some 5) 11 12 13 (bA 18 4095) (bA 18 6143) (bA 18 10239) HT_.out (fun K hK => ?_) (fun K hK => ?_) (fun K hK => ?_)
  ·skip
   refine box_step ?hg (N := 3) ?hd (cs := #[.slice none 0 0, .slice none 0 0]) (t := 25) ?hr ?_; (case hd => rfl); (case hg => rfl); (case hr => first | (go_simp; done) | (go_simp; rfl))
   intro ae hg w17 hbox hb
   replace aj := am (rB aj.out hb)
   replace ak := am (rB ak.out hb)
   have af := am (hbox)
   have aJ := am ((gT hg HB.out))
   have aK := am ((gT hg HB.out))
   have al := am ((nT aa.out hg))
   have ap := am ((mT aa.out hg))
   replace aa := am (bB aa.out hb)
   replace HB := am (sT HB.out hb)
   clear hb hbox hg
   refine hK.out _ _ ⟨cT aa 0, cT aa 1, cT aa 2, cT aa 3, cT aa 4, cT aa 5, cT aa 6⟩ (fun hHeld => ?_)
   clear hK K
   refine mN 3 ?_
   exact qN (hJ2_5_8_11 (aH, aI, ae) _ ⟨hHeld, (rT aj.out), (rT ak.out), (bT aa.out), (bT af.out), aJ.out, aK.out, al.out, ap.out, (eT HB.out)⟩)
  ·skip
   refine box_step ?hg (N := 4) ?hd (cs := #[.string (⟨#[]⟩ : ByteArray), .string (⟨#[]⟩ : ByteArray)]) (t := 27) ?hr ?_; (case hd => rfl); (case hg => rfl); (case hr => first | (go_simp; done) | (go_simp; rfl))
   intro ac hg w17 hbox hb
   replace aj := am (Kd.R_below (Kd.R_elderB (rT aj.out) ac (Nat.le_of_eq hg.symm)) hb)
   replace ak := am (rB ak.out hb)
   have ag := am (hbox)
   have aL := am ((gT hg HB.out))
   have aM := am ((gT hg HB.out))
   have ai := am ((nT aa.out hg))
   have ao := am ((mT aa.out hg))
   replace aa := am (bB aa.out hb)
   replace HB := am (sT HB.out hb)
   clear hb hbox hg
   refine hK.out _ _ ⟨cT aa 0, cT aa 1, cT aa 2, cT aa 3, cT aa 4, cT aa 5, cT aa 6⟩ (fun hHeld => ?_)
   clear hK K
   refine mN 4 ?_
   exact qN (hJ2_5_8_12 (aH, aI, ac) _ ⟨hHeld, (by (with_reducible repeat (first | apply Kd.R_alloc | apply Kd.R_drewN | apply Kd.R_drew)); exact Kd.R_mono aj.out (fun _ hk => hk.2)), (rT ak.out), (bT aa.out), (bT ag.out), aL.out, aM.out, ai.out, ao.out, (eT HB.out)⟩)
  ·skip
   refine box_step ?hg (N := 5) ?hd (cs := #[.string (⟨#[]⟩ : ByteArray), .string (⟨#[]⟩ : ByteArray)]) (t := 27) ?hr ?_; (case hd => rfl); (case hg => rfl); (case hr => first | (go_simp; done) | (go_simp; rfl))
   intro ad hg w17 hbox hb
   replace aj := am (Kd.R_below (Kd.R_elderB (rT aj.out) ad (Nat.le_of_eq hg.symm)) hb)
   replace ak := am (rB ak.out hb)
   have ah := am (hbox)
   have aN := am ((gT hg HB.out))
   have aO := am ((gT hg HB.out))
   have an := am ((nT aa.out hg))
   have aq := am ((mT aa.out hg))
   replace aa := am (bB aa.out hb)
   replace HB := am (sT HB.out hb)
   clear hb hbox hg
   refine hK.out _ _ ⟨cT aa 0, cT aa 1, cT aa 2, cT aa 3, cT aa 4, cT aa 5, cT aa 6⟩ (fun hHeld => ?_)
   clear hK K
   refine mN 5 ?_
   exact qN (hJ2_5_8_13 (aH, aI, ad) _ ⟨hHeld, (by (with_reducible repeat (first | apply Kd.R_alloc | apply Kd.R_drewN | apply Kd.R_drew)); exact Kd.R_mono aj.out (fun _ hk => hk.2)), (rT ak.out), (bT aa.out), (bT ah.out), aN.out, aO.out, an.out, aq.out, (eT HB.out)⟩)
 ·skip
  rintro ⟨aH, aI, ae, ac, ad⟩ w17 ⟨hS_, h0_, h1_, h2_, h3_, h4_, h5_, h6_, h7_, h8_, h9_, h10_, h11_, h12_, h13_, h14_, h15_, h16_, h17_, h18_, h19_, h20_, h21_, h22_, h23_, h24_⟩
  have aj : Aside0 (Kd.R k27 27 w17 w.heap.size (fun k_ => k_ ≠ ac ∧ k_ ≠ ad) aH az) := ⟨h0_⟩
  have ak : Aside0 (Kd.R Kd.string 9 w17 w.heap.size (fun _ => True) aI aA) := ⟨h1_⟩
  replace aa : Aside0 (w17.heap[ab]? = some (.cells #[.slice aD l0_0.length aE, .slice aF l0_1.length aG, .string a0_2, .string a0_3, .string a0_4, .string a0_5, .string a0_6] 29 (0, 0))) := ⟨h2_⟩
  have af : Aside0 (w17.heap[ae]? = some (.cells #[.slice none 0 0, .slice none 0 0] 25 (0, 0))) := ⟨h3_⟩
  have ag : Aside0 (w17.heap[ac]? = some (.cells #[.string (⟨#[]⟩ : ByteArray), .string (⟨#[]⟩ : ByteArray)] 27 (0, 0))) := ⟨h4_⟩
  have ah : Aside0 (w17.heap[ad]? = some (.cells #[.string (⟨#[]⟩ : ByteArray), .string (⟨#[]⟩ : ByteArray)] 27 (0, 0))) := ⟨h5_⟩
  have aJ : Aside0 (w.heap.size ≤ ae) := ⟨h6_⟩
  have aK : Aside0 (w.heap.size ≤ ae) := ⟨h7_⟩
  have al : Aside0 (ab ≠ ae) := ⟨h8_⟩
  have ap : Aside0 (ae ≠ ab) := ⟨h9_⟩
  have ax : Aside0 (ac ≠ ae) := ⟨h10_⟩
  have ay : Aside0 (ae ≠ ac) := ⟨h11_⟩
  have ar : Aside0 (ad ≠ ae) := ⟨h12_⟩
  have au : Aside0 (ae ≠ ad) := ⟨h13_⟩
  have aL : Aside0 (w.heap.size ≤ ac) := ⟨h14_⟩
  have aM : Aside0 (w.heap.size ≤ ac) := ⟨h15_⟩
  have ai : Aside0 (ab ≠ ac) := ⟨h16_⟩
  have ao : Aside0 (ac ≠ ab) := ⟨h17_⟩
  have av : Aside0 (ad ≠ ac) := ⟨h18_⟩
  have aw : Aside0 (ac ≠ ad) := ⟨h19_⟩
  have aN : Aside0 (w.heap.size ≤ ad) := ⟨h20_⟩
  have aO : Aside0 (w.heap.size ≤ ad) := ⟨h21_⟩
  have an : Aside0 (ab ≠ ad) := ⟨h22_⟩
  have aq : Aside0 (ad ≠ ab) := ⟨h23_⟩
  replace HB : Aside0 (Below w.heap.size w w17) := ⟨h24_⟩
  clear h0_ h1_ h2_ h3_ h4_ h5_ h6_ h7_ h8_ h9_ h10_ h11_ h12_ h13_ h14_ h15_ h16_ h17_ h18_ h19_ h20_ h21_ h22_ h23_ h24_
  have hHeld := hS_
  (try dsimp only at hHeld)
  refine rN ?_
  refine oT 5 (bA 18 16127) HT_.out fun K hK => ?_
  refine gS Tryd.func8 #[.agg #[.string a0_2, .string a0_3]] ?_
  with_reducible refine (graftwoodlaw05_One.calls a0_2 a0_3 aB aC _ A3.out).mono ?_
  rintro e w18 ⟨rfl, hb⟩
  refine ⟨_, rfl, ?_⟩
  replace aj := am (rB aj.out hb)
  replace ak := am (rB ak.out hb)
  replace aa := am (bB aa.out hb)
  replace af := am (bB af.out hb)
  replace ag := am (bB ag.out hb)
  replace ah := am (bB ah.out hb)
  replace HB := am (sT HB.out hb)
  (try clear hb)
  (try clear hb2)
  (try clear hk)
  (try clear hi)
  refine hK.out _ _ ⟨cT aa 0, cT aa 1, cT aa 2, cT aa 3, cT aa 4, cT aa 5, cT aa 6⟩ (fun hHeld => ?_)
  clear hK K
  refine mN 26 ?_
  exact qN (hJ2_5_11_12_13 (aH, aI, ae, ac, ad) _ ⟨hHeld, (rT aj.out), (rT ak.out), (bT aa.out), (bT af.out), (bT ag.out), (bT ah.out), aJ.out, aK.out, al.out, ap.out, ax.out, ay.out, ar.out, au.out, aL.out, aM.out, ai.out, ao.out, av.out, aw.out, aN.out, aO.out, an.out, aq.out, (eT HB.out)⟩)
 ·as_aux_lemma =>
  skip
  rintro ⟨aH, aI, ac, ad⟩ w17 ⟨hS_, h0_, h1_, h2_, h3_, h4_, h5_, h6_, h7_, h8_, h9_, h10_, h11_, h12_, h13_, h14_, h15_⟩
  have aj : Aside0 (Kd.R k27 27 w17 w.heap.size (fun k_ => k_ ≠ ac ∧ k_ ≠ ad) aH az) := ⟨h0_⟩
  have ak : Aside0 (Kd.R Kd.string 9 w17 w.heap.size (fun _ => True) aI aA) := ⟨h1_⟩
  replace aa : Aside0 (w17.heap[ab]? = some (.cells #[.slice aD l0_0.length aE, .slice aF l0_1.length aG, .string a0_2, .string a0_3, .string a0_4, .string a0_5, .string a0_6] 29 (0, 0))) := ⟨h2_⟩
  have ag : Aside0 (w17.heap[ac]? = some (.cells #[.string (⟨#[]⟩ : ByteArray), .string (⟨#[]⟩ : ByteArray)] 27 (0, 0))) := ⟨h3_⟩
  have ah : Aside0 (w17.heap[ad]? = some (.cells #[.string (⟨#[]⟩ : ByteArray), .string (⟨#[]⟩ : ByteArray)] 27 (0, 0))) := ⟨h4_⟩
  have aL : Aside0 (w.heap.size ≤ ac) := ⟨h5_⟩
  have aM : Aside0 (w.heap.size ≤ ac) := ⟨h6_⟩
  have ai : Aside0 (ab ≠ ac) := ⟨h7_⟩
  have ao : Aside0 (ac ≠ ab) := ⟨h8_⟩
  have av : Aside0 (ad ≠ ac) := ⟨h9_⟩
  have aw : Aside0 (ac ≠ ad) := ⟨h10_⟩
  have aN : Aside0 (w.heap.size ≤ ad) := ⟨h11_⟩
  have aO : Aside0 (w.heap.size ≤ ad) := ⟨h12_⟩
  have an : Aside0 (ab ≠ ad) := ⟨h13_⟩
  have aq : Aside0 (ad ≠ ab) := ⟨h14_⟩
  replace HB : Aside0 (Below w.heap.size w w17) := ⟨h15_⟩
  clear h0_ h1_ h2_ h3_ h4_ h5_ h6_ h7_ h8_ h9_ h10_ h11_ h12_ h13_ h14_ h15_
  have hHeld := hS_
  (try dsimp only at hHeld)
  refine rN ?_
  refine dT (some 29) (some 3) 8 11 (bA 18 14335) (bA 18 16127) HT_.out (fun K hK => ?_) (fun K hK => ?_)
  ·skip
   refine gS Tryd.func8 #[.agg #[.string a0_4, .string a0_5]] ?_
   with_reducible refine (graftwoodlaw05_One.calls a0_4 a0_5 aP aQ _ A4.out).mono ?_
   rintro e w18 ⟨rfl, hb⟩
   refine ⟨_, rfl, ?_⟩
   replace aj := am (rB aj.out hb)
   replace ak := am (rB ak.out hb)
   replace aa := am (bB aa.out hb)
   replace ag := am (bB ag.out hb)
   replace ah := am (bB ah.out hb)
   replace HB := am (sT HB.out hb)
   (try clear hb)
   (try clear hb2)
   (try clear hk)
   (try clear hi)
   refine hK.out _ _ ⟨cT aa 0, cT aa 1, cT aa 2, cT aa 3, cT aa 4, cT aa 5, cT aa 6⟩ (fun hHeld => ?_)
   clear hK K
   refine mN 29 ?_
   exact qN (hJ2_5_8_12_13 (aH, aI, ac, ad) _ ⟨hHeld, (rT aj.out), (rT ak.out), (bT aa.out), (bT ag.out), (bT ah.out), aL.out, aM.out, ai.out, ao.out, av.out, aw.out, aN.out, aO.out, an.out, aq.out, (eT HB.out)⟩)
  ·skip
   refine box_step ?hg (N := 3) ?hd (cs := #[.slice none 0 0, .slice none 0 0]) (t := 25) ?hr ?_; (case hd => rfl); (case hg => rfl); (case hr => first | (go_simp; done) | (go_simp; rfl))
   intro ae hg w18 hbox hb
   replace aj := am (rB aj.out hb)
   replace ak := am (rB ak.out hb)
   have af := am (hbox)
   have aJ := am ((gT hg HB.out))
   have aK := am ((gT hg HB.out))
   have al := am ((nT aa.out hg))
   have ap := am ((mT aa.out hg))
   have ax := am ((nT ag.out hg))
   have ay := am ((mT ag.out hg))
   have ar := am ((nT ah.out hg))
   have au := am ((mT ah.out hg))
   replace aa := am (bB aa.out hb)
   replace ag := am (bB ag.out hb)
   replace ah := am (bB ah.out hb)
   replace HB := am (sT HB.out hb)
   clear hb hbox hg
   refine hK.out _ _ ⟨cT aa 0, cT aa 1, cT aa 2, cT aa 3, cT aa 4, cT aa 5, cT aa 6⟩ (fun hHeld => ?_)
   clear hK K
   refine mN 3 ?_
   exact qN (hJ2_5_11_12_13 (aH, aI, ae, ac, ad) _ ⟨hHeld, (rT aj.out), (rT ak.out), (bT aa.out), (bT af.out), (bT ag.out), (bT ah.out), aJ.out, aK.out, al.out, ap.out, ax.out, ay.out, ar.out, au.out, aL.out, aM.out, ai.out, ao.out, av.out, aw.out, aN.out, aO.out, an.out, aq.out, (eT HB.out)⟩)
 ·as_aux_lemma =>
  skip
  rintro ⟨aH, aI, ae, ad⟩ w17 ⟨hS_, h0_, h1_, h2_, h3_, h4_, h5_, h6_, h7_, h8_, h9_, h10_, h11_, h12_, h13_, h14_, h15_⟩
  have aj : Aside0 (Kd.R k27 27 w17 w.heap.size (fun k_ => k_ ≠ ad) aH az) := ⟨h0_⟩
  have ak : Aside0 (Kd.R Kd.string 9 w17 w.heap.size (fun _ => True) aI aA) := ⟨h1_⟩
  replace aa : Aside0 (w17.heap[ab]? = some (.cells #[.slice aD l0_0.length aE, .slice aF l0_1.length aG, .string a0_2, .string a0_3, .string a0_4, .string a0_5, .string a0_6] 29 (0, 0))) := ⟨h2_⟩
  have af : Aside0 (w17.heap[ae]? = some (.cells #[.slice none 0 0, .slice none 0 0] 25 (0, 0))) := ⟨h3_⟩
  have ah : Aside0 (w17.heap[ad]? = some (.cells #[.string (⟨#[]⟩ : ByteArray), .string (⟨#[]⟩ : ByteArray)] 27 (0, 0))) := ⟨h4_⟩
  have aJ : Aside0 (w.heap.size ≤ ae) := ⟨h5_⟩
  have aK : Aside0 (w.heap.size ≤ ae) := ⟨h6_⟩
  have al : Aside0 (ab ≠ ae) := ⟨h7_⟩
  have ap : Aside0 (ae ≠ ab) := ⟨h8_⟩
  have ar : Aside0 (ad ≠ ae) := ⟨h9_⟩
  have au : Aside0 (ae ≠ ad) := ⟨h10_⟩
  have aN : Aside0 (w.heap.size ≤ ad) := ⟨h11_⟩
  have aO : Aside0 (w.heap.size ≤ ad) := ⟨h12_⟩
  have an : Aside0 (ab ≠ ad) := ⟨h13_⟩
  have aq : Aside0 (ad ≠ ab) := ⟨h14_⟩
  replace HB : Aside0 (Below w.heap.size w w17) := ⟨h15_⟩
  clear h0_ h1_ h2_ h3_ h4_ h5_ h6_ h7_ h8_ h9_ h10_ h11_ h12_ h13_ h14_ h15_
  have hHeld := hS_
  (try dsimp only at hHeld)
  refine rN ?_
  refine dT (some 29) (some 4) 8 12 (bA 18 12287) (bA 18 16127) HT_.out (fun K hK => ?_) (fun K hK => ?_)
  ·skip
   refine gS Tryd.func8 #[.agg #[.string a0_4, .string a0_5]] ?_
   with_reducible refine (graftwoodlaw05_One.calls a0_4 a0_5 aP aQ _ A4.out).mono ?_
   rintro e w18 ⟨rfl, hb⟩
   refine ⟨_, rfl, ?_⟩
   replace aj := am (rB aj.out hb)
   replace ak := am (rB ak.out hb)
   replace aa := am (bB aa.out hb)
   replace af := am (bB af.out hb)
   replace ah := am (bB ah.out hb)
   replace HB := am (sT HB.out hb)
   (try clear hb)
   (try clear hb2)
   (try clear hk)
   (try clear hi)
   refine hK.out _ _ ⟨cT aa 0, cT aa 1, cT aa 2, cT aa 3, cT aa 4, cT aa 5, cT aa 6⟩ (fun hHeld => ?_)
   clear hK K
   refine mN 29 ?_
   exact qN (hJ2_5_8_11_13 (aH, aI, ae, ad) _ ⟨hHeld, (rT aj.out), (rT ak.out), (bT aa.out), (bT af.out), (bT ah.out), aJ.out, aK.out, al.out, ap.out, ar.out, au.out, aN.out, aO.out, an.out, aq.out, (eT HB.out)⟩)
  ·skip
   refine box_step ?hg (N := 4) ?hd (cs := #[.string (⟨#[]⟩ : ByteArray), .string (⟨#[]⟩ : ByteArray)]) (t := 27) ?hr ?_; (case hd => rfl); (case hg => rfl); (case hr => first | (go_simp; done) | (go_simp; rfl))
   intro ac hg w18 hbox hb
   replace aj := am (Kd.R_below (Kd.R_elderB (rT aj.out) ac (Nat.le_of_eq hg.symm)) hb)
   replace ak := am (rB ak.out hb)
   have ag := am (hbox)
   have aL := am ((gT hg HB.out))
   have aM := am ((gT hg HB.out))
   have ai := am ((nT aa.out hg))
   have ao := am ((mT aa.out hg))
   have ay := am ((nT af.out hg))
   have ax := am ((mT af.out hg))
   have av := am ((nT ah.out hg))
   have aw := am ((mT ah.out hg))
   replace aa := am (bB aa.out hb)
   replace af := am (bB af.out hb)
   replace ah := am (bB ah.out hb)
   replace HB := am (sT HB.out hb)
   clear hb hbox hg
   refine hK.out _ _ ⟨cT aa 0, cT aa 1, cT aa 2, cT aa 3, cT aa 4, cT aa 5, cT aa 6⟩ (fun hHeld => ?_)
   clear hK K
   refine mN 4 ?_
   exact qN (hJ2_5_11_12_13 (aH, aI, ae, ac, ad) _ ⟨hHeld, (by (with_reducible repeat (first | apply Kd.R_alloc | apply Kd.R_drewN | apply Kd.R_drew)); exact Kd.R_mono aj.out (fun _ hk => ⟨hk.2, hk.1⟩)), (rT ak.out), (bT aa.out), (bT af.out), (bT ag.out), (bT ah.out), aJ.out, aK.out, al.out, ap.out, ax.out, ay.out, ar.out, au.out, aL.out, aM.out, ai.out, ao.out, av.out, aw.out, aN.out, aO.out, an.out, aq.out, (eT HB.out)⟩)
 ·as_aux_lemma =>
  skip
  rintro ⟨aH, aI, ae, ac⟩ w17 ⟨hS_, h0_, h1_, h2_, h3_, h4_, h5_, h6_, h7_, h8_, h9_, h10_, h11_, h12_, h13_, h14_, h15_⟩
  have aj : Aside0 (Kd.R k27 27 w17 w.heap.size (fun k_ => k_ ≠ ac) aH az) := ⟨h0_⟩
  have ak : Aside0 (Kd.R Kd.string 9 w17 w.heap.size (fun _ => True) aI aA) := ⟨h1_⟩
  replace aa : Aside0 (w17.heap[ab]? = some (.cells #[.slice aD l0_0.length aE, .slice aF l0_1.length aG, .string a0_2, .string a0_3, .string a0_4, .string a0_5, .string a0_6] 29 (0, 0))) := ⟨h2_⟩
  have af : Aside0 (w17.heap[ae]? = some (.cells #[.slice none 0 0, .slice none 0 0] 25 (0, 0))) := ⟨h3_⟩
  have ag : Aside0 (w17.heap[ac]? = some (.cells #[.string (⟨#[]⟩ : ByteArray), .string (⟨#[]⟩ : ByteArray)] 27 (0, 0))) := ⟨h4_⟩
  have aJ : Aside0 (w.heap.size ≤ ae) := ⟨h5_⟩
  have aK : Aside0 (w.heap.size ≤ ae) := ⟨h6_⟩
  have al : Aside0 (ab ≠ ae) := ⟨h7_⟩
  have ap : Aside0 (ae ≠ ab) := ⟨h8_⟩
  have ax : Aside0 (ac ≠ ae) := ⟨h9_⟩
  have ay : Aside0 (ae ≠ ac) := ⟨h10_⟩
  have aL : Aside0 (w.heap.size ≤ ac) := ⟨h11_⟩
  have aM : Aside0 (w.heap.size ≤ ac) := ⟨h12_⟩
  have ai : Aside0 (ab ≠ ac) := ⟨h13_⟩
  have ao : Aside0 (ac ≠ ab) := ⟨h14_⟩
  replace HB : Aside0 (Below w.heap.size w w17) := ⟨h15_⟩
  clear h0_ h1_ h2_ h3_ h4_ h5_ h6_ h7_ h8_ h9_ h10_ h11_ h12_ h13_ h14_ h15_
  have hHeld := hS_
  (try dsimp only at hHeld)
  refine rN ?_
  refine dT (some 29) (some 5) 8 13 (bA 18 8191) (bA 18 16127) HT_.out (fun K hK => ?_) (fun K hK => ?_)
  ·skip
   refine gS Tryd.func8 #[.agg #[.string a0_4, .string a0_5]] ?_
   with_reducible refine (graftwoodlaw05_One.calls a0_4 a0_5 aP aQ _ A4.out).mono ?_
   rintro e w18 ⟨rfl, hb⟩
   refine ⟨_, rfl, ?_⟩
   replace aj := am (rB aj.out hb)
   replace ak := am (rB ak.out hb)
   replace aa := am (bB aa.out hb)
   replace af := am (bB af.out hb)
   replace ag := am (bB ag.out hb)
   replace HB := am (sT HB.out hb)
   (try clear hb)
   (try clear hb2)
   (try clear hk)
   (try clear hi)
   refine hK.out _ _ ⟨cT aa 0, cT aa 1, cT aa 2, cT aa 3, cT aa 4, cT aa 5, cT aa 6⟩ (fun hHeld => ?_)
   clear hK K
   refine mN 29 ?_
   exact qN (hJ2_5_8_11_12 (aH, aI, ae, ac) _ ⟨hHeld, (rT aj.out), (rT ak.out), (bT aa.out), (bT af.out), (bT ag.out), aJ.out, aK.out, al.out, ap.out, ax.out, ay.out, aL.out, aM.out, ai.out, ao.out, (eT HB.out)⟩)
  ·skip
   refine box_step ?hg (N := 5) ?hd (cs := #[.string (⟨#[]⟩ : ByteArray), .string (⟨#[]⟩ : ByteArray)]) (t := 27) ?hr ?_; (case hd => rfl); (case hg => rfl); (case hr => first | (go_simp; done) | (go_simp; rfl))
   intro ad hg w18 hbox hb
   replace aj := am (Kd.R_below (Kd.R_elderB (rT aj.out) ad (Nat.le_of_eq hg.symm)) hb)
   replace ak := am (rB ak.out hb)
   have ah := am (hbox)
   have aN := am ((gT hg HB.out))
   have aO := am ((gT hg HB.out))
   have an := am ((nT aa.out hg))
   have aq := am ((mT aa.out hg))
   have au := am ((nT af.out hg))
   have ar := am ((mT af.out hg))
   have aw := am ((nT ag.out hg))
   have av := am ((mT ag.out hg))
   replace aa := am (bB aa.out hb)
   replace af := am (bB af.out hb)
   replace ag := am (bB ag.out hb)
   replace HB := am (sT HB.out hb)
   clear hb hbox hg
   refine hK.out _ _ ⟨cT aa 0, cT aa 1, cT aa 2, cT aa 3, cT aa 4, cT aa 5, cT aa 6⟩ (fun hHeld => ?_)
   clear hK K
   refine mN 5 ?_
   exact qN (hJ2_5_11_12_13 (aH, aI, ae, ac, ad) _ ⟨hHeld, (rT aj.out), (rT ak.out), (bT aa.out), (bT af.out), (bT ag.out), (bT ah.out), aJ.out, aK.out, al.out, ap.out, ax.out, ay.out, ar.out, au.out, aL.out, aM.out, ai.out, ao.out, av.out, aw.out, aN.out, aO.out, an.out, aq.out, (eT HB.out)⟩)
 ·skip
  rintro ⟨aH, aI, ad⟩ w17 ⟨hS_, h0_, h1_, h2_, h3_, h4_, h5_, h6_, h7_, h8_⟩
  have aj : Aside0 (Kd.R k27 27 w17 w.heap.size (fun k_ => k_ ≠ ad) aH az) := ⟨h0_⟩
  have ak : Aside0 (Kd.R Kd.string 9 w17 w.heap.size (fun _ => True) aI aA) := ⟨h1_⟩
  replace aa : Aside0 (w17.heap[ab]? = some (.cells #[.slice aD l0_0.length aE, .slice aF l0_1.length aG, .string a0_2, .string a0_3, .string a0_4, .string a0_5, .string a0_6] 29 (0, 0))) := ⟨h2_⟩
  have ah : Aside0 (w17.heap[ad]? = some (.cells #[.string (⟨#[]⟩ : ByteArray), .string (⟨#[]⟩ : ByteArray)] 27 (0, 0))) := ⟨h3_⟩
  have aN : Aside0 (w.heap.size ≤ ad) := ⟨h4_⟩
  have aO : Aside0 (w.heap.size ≤ ad) := ⟨h5_⟩
  have an : Aside0 (ab ≠ ad) := ⟨h6_⟩
  have aq : Aside0 (ad ≠ ab) := ⟨h7_⟩
  replace HB : Aside0 (Below w.heap.size w w17) := ⟨h8_⟩
  clear h0_ h1_ h2_ h3_ h4_ h5_ h6_ h7_ h8_
  have hHeld := hS_
  (try dsimp only at hHeld)
  refine rN ?_
  refine dT (some 3) (some 4) 11 12 (bA 18 12287) (bA 18 14335) HT_.out (fun K hK => ?_) (fun K hK => ?_)
  ·skip
   refine box_step ?hg (N := 3) ?hd (cs := #[.slice none 0 0, .slice none 0 0]) (t := 25) ?hr ?_; (case hd => rfl); (case hg => rfl); (case hr => first | (go_simp; done) | (go_simp; rfl))
   intro ae hg w18 hbox hb
   replace aj := am (rB aj.out hb)
   replace ak := am (rB ak.out hb)
   have af := am (hbox)
   have aJ := am ((gT hg HB.out))
   have aK := am ((gT hg HB.out))
   have al := am ((nT aa.out hg))
   have ap := am ((mT aa.out hg))
   have ar := am ((nT ah.out hg))
   have au := am ((mT ah.out hg))
   replace aa := am (bB aa.out hb)
   replace ah := am (bB ah.out hb)
   replace HB := am (sT HB.out hb)
   clear hb hbox hg
   refine hK.out _ _ ⟨cT aa 0, cT aa 1, cT aa 2, cT aa 3, cT aa 4, cT aa 5, cT aa 6⟩ (fun hHeld => ?_)
   clear hK K
   refine mN 3 ?_
   exact qN (hJ2_5_8_11_13 (aH, aI, ae, ad) _ ⟨hHeld, (rT aj.out), (rT ak.out), (bT aa.out), (bT af.out), (bT ah.out), aJ.out, aK.out, al.out, ap.out, ar.out, au.out, aN.out, aO.out, an.out, aq.out, (eT HB.out)⟩)
  ·skip
   refine box_step ?hg (N := 4) ?hd (cs := #[.string (⟨#[]⟩ : ByteArray), .string (⟨#[]⟩ : ByteArray)]) (t := 27) ?hr ?_; (case hd => rfl); (case hg => rfl); (case hr => first | (go_simp; done) | (go_simp; rfl))
   intro ac hg w18 hbox hb
   replace aj := am (Kd.R_below (Kd.R_elderB (rT aj.out) ac (Nat.le_of_eq hg.symm)) hb)
   replace ak := am (rB ak.out hb)
   have ag := am (hbox)
   have aL := am ((gT hg HB.out))
   have aM := am ((gT hg HB.out))
   have ai := am ((nT aa.out hg))
   have ao := am ((mT aa.out hg))
   have av := am ((nT ah.out hg))
   have aw := am ((mT ah.out hg))
   replace aa := am (bB aa.out hb)
   replace ah := am (bB ah.out hb)
   replace HB := am (sT HB.out hb)
   clear hb hbox hg
   refine hK.out _ _ ⟨cT aa 0, cT aa 1, cT aa 2, cT aa 3, cT aa 4, cT aa 5, cT aa 6⟩ (fun hHeld => ?_)
   clear hK K
   refine mN 4 ?_
   exact qN (hJ2_5_8_12_13 (aH, aI, ac, ad) _ ⟨hHeld, (by (with_reducible repeat (first | apply Kd.R_alloc | apply Kd.R_drewN | apply Kd.R_drew)); exact Kd.R_mono aj.out (fun _ hk => ⟨hk.2, hk.1⟩)), (rT ak.out), (bT aa.out), (bT ag.out), (bT ah.out), aL.out, aM.out, ai.out, ao.out, av.out, aw.out, aN.out, aO.out, an.out, aq.out, (eT HB.out)⟩)
 ·skip
  rintro ⟨aH, aI, ac⟩ w17 ⟨hS_, h0_, h1_, h2_, h3_, h4_, h5_, h6_, h7_, h8_⟩
  have aj : Aside0 (Kd.R k27 27 w17 w.heap.size (fun k_ => k_ ≠ ac) aH az) := ⟨h0_⟩
  have ak : Aside0 (Kd.R Kd.string 9 w17 w.heap.size (fun _ => True) aI aA) := ⟨h1_⟩
  replace aa : Aside0 (w17.heap[ab]? = some (.cells #[.slice aD l0_0.length aE, .slice aF l0_1.length aG, .string a0_2, .string a0_3, .string a0_4, .string a0_5, .string a0_6] 29 (0, 0))) := ⟨h2_⟩
  have ag : Aside0 (w17.heap[ac]? = some (.cells #[.string (⟨#[]⟩ : ByteArray), .string (⟨#[]⟩ : ByteArray)] 27 (0, 0))) := ⟨h3_⟩
  have aL : Aside0 (w.heap.size ≤ ac) := ⟨h4_⟩
  have aM : Aside0 (w.heap.size ≤ ac) := ⟨h5_⟩
  have ai : Aside0 (ab ≠ ac) := ⟨h6_⟩
  have ao : Aside0 (ac ≠ ab) := ⟨h7_⟩
  replace HB : Aside0 (Below w.heap.size w w17) := ⟨h8_⟩
  clear h0_ h1_ h2_ h3_ h4_ h5_ h6_ h7_ h8_
  have hHeld := hS_
  (try dsimp only at hHeld)
  refine rN ?_
  refine dT (some 3) (some 5) 11 13 (bA 18 8191) (bA 18 14335) HT_.out (fun K hK => ?_) (fun K hK => ?_)
  ·skip
   refine box_step ?hg (N := 3) ?hd (cs := #[.slice none 0 0, .slice none 0 0]) (t := 25) ?hr ?_; (case hd => rfl); (case hg => rfl); (case hr => first | (go_simp; done) | (go_simp; rfl))
   intro ae hg w18 hbox hb
   replace aj := am (rB aj.out hb)
   replace ak := am (rB ak.out hb)
   have af := am (hbox)
   have aJ := am ((gT hg HB.out))
   have aK := am ((gT hg HB.out))
   have al := am ((nT aa.out hg))
   have ap := am ((mT aa.out hg))
   have ax := am ((nT ag.out hg))
   have ay := am ((mT ag.out hg))
   replace aa := am (bB aa.out hb)
   replace ag := am (bB ag.out hb)
   replace HB := am (sT HB.out hb)
   clear hb hbox hg
   refine hK.out _ _ ⟨cT aa 0, cT aa 1, cT aa 2, cT aa 3, cT aa 4, cT aa 5, cT aa 6⟩ (fun hHeld => ?_)
   clear hK K
   refine mN 3 ?_
   exact qN (hJ2_5_8_11_12 (aH, aI, ae, ac) _ ⟨hHeld, (rT aj.out), (rT ak.out), (bT aa.out), (bT af.out), (bT ag.out), aJ.out, aK.out, al.out, ap.out, ax.out, ay.out, aL.out, aM.out, ai.out, ao.out, (eT HB.out)⟩)
  ·skip
   refine box_step ?hg (N := 5) ?hd (cs := #[.string (⟨#[]⟩ : ByteArray), .string (⟨#[]⟩ : ByteArray)]) (t := 27) ?hr ?_; (case hd => rfl); (case hg => rfl); (case hr => first | (go_simp; done) | (go_simp; rfl))
   intro ad hg w18 hbox hb
   replace aj := am (Kd.R_below (Kd.R_elderB (rT aj.out) ad (Nat.le_of_eq hg.symm)) hb)
   replace ak := am (rB ak.out hb)
   have ah := am (hbox)
   have aN := am ((gT hg HB.out))
   have aO := am ((gT hg HB.out))
   have an := am ((nT aa.out hg))
   have aq := am ((mT aa.out hg))
   have aw := am ((nT ag.out hg))
   have av := am ((mT ag.out hg))
   replace aa := am (bB aa.out hb)
   replace ag := am (bB ag.out hb)
   replace HB := am (sT HB.out hb)
   clear hb hbox hg
   refine hK.out _ _ ⟨cT aa 0, cT aa 1, cT aa 2, cT aa 3, cT aa 4, cT aa 5, cT aa 6⟩ (fun hHeld => ?_)
   clear hK K
   refine mN 5 ?_
   exact qN (hJ2_5_8_12_13 (aH, aI, ac, ad) _ ⟨hHeld, (rT aj.out), (rT ak.out), (bT aa.out), (bT ag.out), (bT ah.out), aL.out, aM.out, ai.out, ao.out, av.out, aw.out, aN.out, aO.out, an.out, aq.out, (eT HB.out)⟩)
 ·skip
  rintro ⟨aH, aI, ae⟩ w17 ⟨hS_, h0_, h1_, h2_, h3_, h4_, h5_, h6_, h7_, h8_⟩
  have aj : Aside0 (Kd.R k27 27 w17 w.heap.size (fun _ => True) aH az) := ⟨h0_⟩
  have ak : Aside0 (Kd.R Kd.string 9 w17 w.heap.size (fun _ => True) aI aA) := ⟨h1_⟩
  replace aa : Aside0 (w17.heap[ab]? = some (.cells #[.slice aD l0_0.length aE, .slice aF l0_1.length aG, .string a0_2, .string a0_3, .string a0_4, .string a0_5, .string a0_6] 29 (0, 0))) := ⟨h2_⟩
  have af : Aside0 (w17.heap[ae]? = some (.cells #[.slice none 0 0, .slice none 0 0] 25 (0, 0))) := ⟨h3_⟩
  have aJ : Aside0 (w.heap.size ≤ ae) := ⟨h4_⟩
  have aK : Aside0 (w.heap.size ≤ ae) := ⟨h5_⟩
  have al : Aside0 (ab ≠ ae) := ⟨h6_⟩
  have ap : Aside0 (ae ≠ ab) := ⟨h7_⟩
  replace HB : Aside0 (Below w.heap.size w w17) := ⟨h8_⟩
  clear h0_ h1_ h2_ h3_ h4_ h5_ h6_ h7_ h8_
  have hHeld := hS_
  (try dsimp only at hHeld)
  refine rN ?_
  refine dT (some 4) (some 5) 12 13 (bA 18 8191) (bA 18 12287) HT_.out (fun K hK => ?_) (fun K hK => ?_)
  ·skip
   refine box_step ?hg (N := 4) ?hd (cs := #[.string (⟨#[]⟩ : ByteArray), .string (⟨#[]⟩ : ByteArray)]) (t := 27) ?hr ?_; (case hd => rfl); (case hg => rfl); (case hr => first | (go_simp; done) | (go_simp; rfl))
   intro ac hg w18 hbox hb
   replace aj := am (Kd.R_below (Kd.R_elderB (rT aj.out) ac (Nat.le_of_eq hg.symm)) hb)
   replace ak := am (rB ak.out hb)
   have ag := am (hbox)
   have aL := am ((gT hg HB.out))
   have aM := am ((gT hg HB.out))
   have ai := am ((nT aa.out hg))
   have ao := am ((mT aa.out hg))
   have ay := am ((nT af.out hg))
   have ax := am ((mT af.out hg))
   replace aa := am (bB aa.out hb)
   replace af := am (bB af.out hb)
   replace HB := am (sT HB.out hb)
   clear hb hbox hg
   refine hK.out _ _ ⟨cT aa 0, cT aa 1, cT aa 2, cT aa 3, cT aa 4, cT aa 5, cT aa 6⟩ (fun hHeld => ?_)
   clear hK K
   refine mN 4 ?_
   exact qN (hJ2_5_8_11_12 (aH, aI, ae, ac) _ ⟨hHeld, (by (with_reducible repeat (first | apply Kd.R_alloc | apply Kd.R_drewN | apply Kd.R_drew)); exact Kd.R_mono aj.out (fun _ hk => hk.2)), (rT ak.out), (bT aa.out), (bT af.out), (bT ag.out), aJ.out, aK.out, al.out, ap.out, ax.out, ay.out, aL.out, aM.out, ai.out, ao.out, (eT HB.out)⟩)
  ·skip
   refine box_step ?hg (N := 5) ?hd (cs := #[.string (⟨#[]⟩ : ByteArray), .string (⟨#[]⟩ : ByteArray)]) (t := 27) ?hr ?_; (case hd => rfl); (case hg => rfl); (case hr => first | (go_simp; done) | (go_simp; rfl))
   intro ad hg w18 hbox hb
   replace aj := am (Kd.R_below (Kd.R_elderB (rT aj.out) ad (Nat.le_of_eq hg.symm)) hb)
   replace ak := am (rB ak.out hb)
   have ah := am (hbox)
   have aN := am ((gT hg HB.out))
   have aO := am ((gT hg HB.out))
   have an := am ((nT aa.out hg))
   have aq := am ((mT aa.out hg))
   have au := am ((nT af.out hg))
   have ar := am ((mT af.out hg))
   replace aa := am (bB aa.out hb)
   replace af := am (bB af.out hb)
   replace HB := am (sT HB.out hb)
   clear hb hbox hg
   refine hK.out _ _ ⟨cT aa 0, cT aa 1, cT aa 2, cT aa 3, cT aa 4, cT aa 5, cT aa 6⟩ (fun hHeld => ?_)
   clear hK K
   refine mN 5 ?_
   exact qN (hJ2_5_8_11_13 (aH, aI, ae, ad) _ ⟨hHeld, (by (with_reducible repeat (first | apply Kd.R_alloc | apply Kd.R_drewN | apply Kd.R_drew)); exact Kd.R_mono aj.out (fun _ hk => hk.2)), (rT ak.out), (bT aa.out), (bT af.out), (bT ah.out), aJ.out, aK.out, al.out, ap.out, ar.out, au.out, aN.out, aO.out, an.out, aq.out, (eT HB.out)⟩)
 ·skip
  rintro ⟨aH, aI, ae, ac, ad⟩ w18 ⟨hS_, h0_, h1_, h2_, h3_, h4_, h5_, h6_, h7_, h8_, h9_, h10_, h11_, h12_, h13_, h14_, h15_, h16_, h17_, h18_, h19_, h20_, h21_, h22_, h23_, h24_⟩
  have aj : Aside0 (Kd.R k27 27 w18 w.heap.size (fun k_ => k_ ≠ ac ∧ k_ ≠ ad) aH az) := ⟨h0_⟩
  have ak : Aside0 (Kd.R Kd.string 9 w18 w.heap.size (fun _ => True) aI aA) := ⟨h1_⟩
  replace aa : Aside0 (w18.heap[ab]? = some (.cells #[.slice aD l0_0.length aE, .slice aF l0_1.length aG, .string a0_2, .string a0_3, .string a0_4, .string a0_5, .string a0_6] 29 (0, 0))) := ⟨h2_⟩
  have af : Aside0 (w18.heap[ae]? = some (.cells #[.slice none 0 0, .slice none 0 0] 25 (0, 0))) := ⟨h3_⟩
  have ag : Aside0 (w18.heap[ac]? = some (.cells #[.string (⟨#[]⟩ : ByteArray), .string (⟨#[]⟩ : ByteArray)] 27 (0, 0))) := ⟨h4_⟩
  have ah : Aside0 (w18.heap[ad]? = some (.cells #[.string (⟨#[]⟩ : ByteArray), .string (⟨#[]⟩ : ByteArray)] 27 (0, 0))) := ⟨h5_⟩
  have aJ : Aside0 (w.heap.size ≤ ae) := ⟨h6_⟩
  have aK : Aside0 (w.heap.size ≤ ae) := ⟨h7_⟩
  have al : Aside0 (ab ≠ ae) := ⟨h8_⟩
  have ap : Aside0 (ae ≠ ab) := ⟨h9_⟩
  have ax : Aside0 (ac ≠ ae) := ⟨h10_⟩
  have ay : Aside0 (ae ≠ ac) := ⟨h11_⟩
  have ar : Aside0 (ad ≠ ae) := ⟨h12_⟩
  have au : Aside0 (ae ≠ ad) := ⟨h13_⟩
  have aL : Aside0 (w.heap.size ≤ ac) := ⟨h14_⟩
  have aM : Aside0 (w.heap.size ≤ ac) := ⟨h15_⟩
  have ai : Aside0 (ab ≠ ac) := ⟨h16_⟩
  have ao : Aside0 (ac ≠ ab) := ⟨h17_⟩
  have av : Aside0 (ad ≠ ac) := ⟨h18_⟩
  have aw : Aside0 (ac ≠ ad) := ⟨h19_⟩
  have aN : Aside0 (w.heap.size ≤ ad) := ⟨h20_⟩
  have aO : Aside0 (w.heap.size ≤ ad) := ⟨h21_⟩
  have an : Aside0 (ab ≠ ad) := ⟨h22_⟩
  have aq : Aside0 (ad ≠ ab) := ⟨h23_⟩
  replace HB : Aside0 (Below w.heap.size w w18) := ⟨h24_⟩
  clear h0_ h1_ h2_ h3_ h4_ h5_ h6_ h7_ h8_ h9_ h10_ h11_ h12_ h13_ h14_ h15_ h16_ h17_ h18_ h19_ h20_ h21_ h22_ h23_ h24_
  have hHeld := hS_
  (try dsimp only at hHeld)
  refine rN ?_
  refine oT 8 (bA 18 16383) HT_.out fun K hK => ?_
  refine gS Tryd.func8 #[.agg #[.string a0_4, .string a0_5]] ?_
  with_reducible refine (graftwoodlaw05_One.calls a0_4 a0_5 aP aQ _ A4.out).mono ?_
  rintro e w19 ⟨rfl, hb⟩
  refine ⟨_, rfl, ?_⟩
  replace aj := am (rB aj.out hb)
  replace ak := am (rB ak.out hb)
  replace aa := am (bB aa.out hb)
  replace af := am (bB af.out hb)
  replace ag := am (bB ag.out hb)
  replace ah := am (bB ah.out hb)
  replace HB := am (sT HB.out hb)
  (try clear hb)
  (try clear hb2)
  (try clear hk)
  (try clear hi)
  refine hK.out _ _ ⟨cT aa 0, cT aa 1, cT aa 2, cT aa 3, cT aa 4, cT aa 5, cT aa 6⟩ (fun hHeld => ?_)
  clear hK K
  refine mN 29 ?_
  exact qN (hJ2_5_8_11_12_13 (aH, aI, ae, ac, ad) _ ⟨hHeld, (rT aj.out), (rT ak.out), (bT aa.out), (bT af.out), (bT ag.out), (bT ah.out), aJ.out, aK.out, al.out, ap.out, ax.out, ay.out, ar.out, au.out, aL.out, aM.out, ai.out, ao.out, av.out, aw.out, aN.out, aO.out, an.out, aq.out, (eT HB.out)⟩)
 ·skip
  rintro ⟨aH, aI, ac, ad⟩ w18 ⟨hS_, h0_, h1_, h2_, h3_, h4_, h5_, h6_, h7_, h8_, h9_, h10_, h11_, h12_, h13_, h14_, h15_⟩
  have aj : Aside0 (Kd.R k27 27 w18 w.heap.size (fun k_ => k_ ≠ ac ∧ k_ ≠ ad) aH az) := ⟨h0_⟩
  have ak : Aside0 (Kd.R Kd.string 9 w18 w.heap.size (fun _ => True) aI aA) := ⟨h1_⟩
  replace aa : Aside0 (w18.heap[ab]? = some (.cells #[.slice aD l0_0.length aE, .slice aF l0_1.length aG, .string a0_2, .string a0_3, .string a0_4, .string a0_5, .string a0_6] 29 (0, 0))) := ⟨h2_⟩
  have ag : Aside0 (w18.heap[ac]? = some (.cells #[.string (⟨#[]⟩ : ByteArray), .string (⟨#[]⟩ : ByteArray)] 27 (0, 0))) := ⟨h3_⟩
  have ah : Aside0 (w18.heap[ad]? = some (.cells #[.string (⟨#[]⟩ : ByteArray), .string (⟨#[]⟩ : ByteArray)] 27 (0, 0))) := ⟨h4_⟩
  have aL : Aside0 (w.heap.size ≤ ac) := ⟨h5_⟩
  have aM : Aside0 (w.heap.size ≤ ac) := ⟨h6_⟩
  have ai : Aside0 (ab ≠ ac) := ⟨h7_⟩
  have ao : Aside0 (ac ≠ ab) := ⟨h8_⟩
  have av : Aside0 (ad ≠ ac) := ⟨h9_⟩
  have aw : Aside0 (ac ≠ ad) := ⟨h10_⟩
  have aN : Aside0 (w.heap.size ≤ ad) := ⟨h11_⟩
  have aO : Aside0 (w.heap.size ≤ ad) := ⟨h12_⟩
  have an : Aside0 (ab ≠ ad) := ⟨h13_⟩
  have aq : Aside0 (ad ≠ ab) := ⟨h14_⟩
  replace HB : Aside0 (Below w.heap.size w w18) := ⟨h15_⟩
  clear h0_ h1_ h2_ h3_ h4_ h5_ h6_ h7_ h8_ h9_ h10_ h11_ h12_ h13_ h14_ h15_
  have hHeld := hS_
  (try dsimp only at hHeld)
  refine rN ?_
  refine oT 11 (bA 18 16383) HT_.out fun K hK => ?_
  refine box_step ?hg (N := 3) ?hd (cs := #[.slice none 0 0, .slice none 0 0]) (t := 25) ?hr ?_; (case hd => rfl); (case hg => rfl); (case hr => first | (go_simp; done) | (go_simp; rfl))
  intro ae hg w19 hbox hb
  replace aj := am (rB aj.out hb)
  replace ak := am (rB ak.out hb)
  have af := am (hbox)
  have aJ := am ((gT hg HB.out))
  have aK := am ((gT hg HB.out))
  have al := am ((nT aa.out hg))
  have ap := am ((mT aa.out hg))
  have ax := am ((nT ag.out hg))
  have ay := am ((mT ag.out hg))
  have ar := am ((nT ah.out hg))
  have au := am ((mT ah.out hg))
  replace aa := am (bB aa.out hb)
  replace ag := am (bB ag.out hb)
  replace ah := am (bB ah.out hb)
  replace HB := am (sT HB.out hb)
  clear hb hbox hg
  refine hK.out _ _ ⟨cT aa 0, cT aa 1, cT aa 2, cT aa 3, cT aa 4, cT aa 5, cT aa 6⟩ (fun hHeld => ?_)
  clear hK K
  refine mN 3 ?_
  exact qN (hJ2_5_8_11_12_13 (aH, aI, ae, ac, ad) _ ⟨hHeld, (rT aj.out), (rT ak.out), (bT aa.out), (bT af.out), (bT ag.out), (bT ah.out), aJ.out, aK.out, al.out, ap.out, ax.out, ay.out, ar.out, au.out, aL.out, aM.out, ai.out, ao.out, av.out, aw.out, aN.out, aO.out, an.out, aq.out, (eT HB.out)⟩)
 ·skip
  rintro ⟨aH, aI, ae, ad⟩ w18 ⟨hS_, h0_, h1_, h2_, h3_, h4_, h5_, h6_, h7_, h8_, h9_, h10_, h11_, h12_, h13_, h14_, h15_⟩
  have aj : Aside0 (Kd.R k27 27 w18 w.heap.size (fun k_ => k_ ≠ ad) aH az) := ⟨h0_⟩
  have ak : Aside0 (Kd.R Kd.string 9 w18 w.heap.size (fun _ => True) aI aA) := ⟨h1_⟩
  replace aa : Aside0 (w18.heap[ab]? = some (.cells #[.slice aD l0_0.length aE, .slice aF l0_1.length aG, .string a0_2, .string a0_3, .string a0_4, .string a0_5, .string a0_6] 29 (0, 0))) := ⟨h2_⟩
  have af : Aside0 (w18.heap[ae]? = some (.cells #[.slice none 0 0, .slice none 0 0] 25 (0, 0))) := ⟨h3_⟩
  have ah : Aside0 (w18.heap[ad]? = some (.cells #[.string (⟨#[]⟩ : ByteArray), .string (⟨#[]⟩ : ByteArray)] 27 (0, 0))) := ⟨h4_⟩
  have aJ : Aside0 (w.heap.size ≤ ae) := ⟨h5_⟩
  have aK : Aside0 (w.heap.size ≤ ae) := ⟨h6_⟩
  have al : Aside0 (ab ≠ ae) := ⟨h7_⟩
  have ap : Aside0 (ae ≠ ab) := ⟨h8_⟩
  have ar : Aside0 (ad ≠ ae) := ⟨h9_⟩
  have au : Aside0 (ae ≠ ad) := ⟨h10_⟩
  have aN : Aside0 (w.heap.size ≤ ad) := ⟨h11_⟩
  have aO : Aside0 (w.heap.size ≤ ad) := ⟨h12_⟩
  have an : Aside0 (ab ≠ ad) := ⟨h13_⟩
  have aq : Aside0 (ad ≠ ab) := ⟨h14_⟩
  replace HB : Aside0 (Below w.heap.size w w18) := ⟨h15_⟩
  clear h0_ h1_ h2_ h3_ h4_ h5_ h6_ h7_ h8_ h9_ h10_ h11_ h12_ h13_ h14_ h15_
  have hHeld := hS_
  (try dsimp only at hHeld)
  refine rN ?_
  refine oT 12 (bA 18 16383) HT_.out fun K hK => ?_
  refine box_step ?hg (N := 4) ?hd (cs := #[.string (⟨#[]⟩ : ByteArray), .string (⟨#[]⟩ : ByteArray)]) (t := 27) ?hr ?_; (case hd => rfl); (case hg => rfl); (case hr => first | (go_simp; done) | (go_simp; rfl))
  intro ac hg w19 hbox hb
  replace aj := am (Kd.R_below (Kd.R_elderB (rT aj.out) ac (Nat.le_of_eq hg.symm)) hb)
  replace ak := am (rB ak.out hb)
  have ag := am (hbox)
  have aL := am ((gT hg HB.out))
  have aM := am ((gT hg HB.out))
  have ai := am ((nT aa.out hg))
  have ao := am ((mT aa.out hg))
  have ay := am ((nT af.out hg))
  have ax := am ((mT af.out hg))
  have av := am ((nT ah.out hg))
  have aw := am ((mT ah.out hg))
  replace aa := am (bB aa.out hb)
  replace af := am (bB af.out hb)
  replace ah := am (bB ah.out hb)
  replace HB := am (sT HB.out hb)
  clear hb hbox hg
  refine hK.out _ _ ⟨cT aa 0, cT aa 1, cT aa 2, cT aa 3, cT aa 4, cT aa 5, cT aa 6⟩ (fun hHeld => ?_)
  clear hK K
  refine mN 4 ?_
  exact qN (hJ2_5_8_11_12_13 (aH, aI, ae, ac, ad) _ ⟨hHeld, (by (with_reducible repeat (first | apply Kd.R_alloc | apply Kd.R_drewN | apply Kd.R_drew)); exact Kd.R_mono aj.out (fun _ hk => ⟨hk.2, hk.1⟩)), (rT ak.out), (bT aa.out), (bT af.out), (bT ag.out), (bT ah.out), aJ.out, aK.out, al.out, ap.out, ax.out, ay.out, ar.out, au.out, aL.out, aM.out, ai.out, ao.out, av.out, aw.out, aN.out, aO.out, an.out, aq.out, (eT HB.out)⟩)
 ·skip
  rintro ⟨aH, aI, ae, ac⟩ w18 ⟨hS_, h0_, h1_, h2_, h3_, h4_, h5_, h6_, h7_, h8_, h9_, h10_, h11_, h12_, h13_, h14_, h15_⟩
  have aj : Aside0 (Kd.R k27 27 w18 w.heap.size (fun k_ => k_ ≠ ac) aH az) := ⟨h0_⟩
  have ak : Aside0 (Kd.R Kd.string 9 w18 w.heap.size (fun _ => True) aI aA) := ⟨h1_⟩
  replace aa : Aside0 (w18.heap[ab]? = some (.cells #[.slice aD l0_0.length aE, .slice aF l0_1.length aG, .string a0_2, .string a0_3, .string a0_4, .string a0_5, .string a0_6] 29 (0, 0))) := ⟨h2_⟩
  have af : Aside0 (w18.heap[ae]? = some (.cells #[.slice none 0 0, .slice none 0 0] 25 (0, 0))) := ⟨h3_⟩
  have ag : Aside0 (w18.heap[ac]? = some (.cells #[.string (⟨#[]⟩ : ByteArray), .string (⟨#[]⟩ : ByteArray)] 27 (0, 0))) := ⟨h4_⟩
  have aJ : Aside0 (w.heap.size ≤ ae) := ⟨h5_⟩
  have aK : Aside0 (w.heap.size ≤ ae) := ⟨h6_⟩
  have al : Aside0 (ab ≠ ae) := ⟨h7_⟩
  have ap : Aside0 (ae ≠ ab) := ⟨h8_⟩
  have ax : Aside0 (ac ≠ ae) := ⟨h9_⟩
  have ay : Aside0 (ae ≠ ac) := ⟨h10_⟩
  have aL : Aside0 (w.heap.size ≤ ac) := ⟨h11_⟩
  have aM : Aside0 (w.heap.size ≤ ac) := ⟨h12_⟩
  have ai : Aside0 (ab ≠ ac) := ⟨h13_⟩
  have ao : Aside0 (ac ≠ ab) := ⟨h14_⟩
  replace HB : Aside0 (Below w.heap.size w w18) := ⟨h15_⟩
  clear h0_ h1_ h2_ h3_ h4_ h5_ h6_ h7_ h8_ h9_ h10_ h11_ h12_ h13_ h14_ h15_
  have hHeld := hS_
  (try dsimp only at hHeld)
  refine rN ?_
  refine oT 13 (bA 18 16383) HT_.out fun K hK => ?_
  refine box_step ?hg (N := 5) ?hd (cs := #[.string (⟨#[]⟩ : ByteArray), .string (⟨#[]⟩ : ByteArray)]) (t := 27) ?hr ?_; (case hd => rfl); (case hg => rfl); (case hr => first | (go_simp; done) | (go_simp; rfl))
  intro ad hg w19 hbox hb
  replace aj := am (Kd.R_below (Kd.R_elderB (rT aj.out) ad (Nat.le_of_eq hg.symm)) hb)
  replace ak := am (rB ak.out hb)
  have ah := am (hbox)
  have aN := am ((gT hg HB.out))
  have aO := am ((gT hg HB.out))
  have an := am ((nT aa.out hg))
  have aq := am ((mT aa.out hg))
  have au := am ((nT af.out hg))
  have ar := am ((mT af.out hg))
  have aw := am ((nT ag.out hg))
  have av := am ((mT ag.out hg))
  replace aa := am (bB aa.out hb)
  replace af := am (bB af.out hb)
  replace ag := am (bB ag.out hb)
  replace HB := am (sT HB.out hb)
  clear hb hbox hg
  refine hK.out _ _ ⟨cT aa 0, cT aa 1, cT aa 2, cT aa 3, cT aa 4, cT aa 5, cT aa 6⟩ (fun hHeld => ?_)
  clear hK K
  refine mN 5 ?_
  exact qN (hJ2_5_8_11_12_13 (aH, aI, ae, ac, ad) _ ⟨hHeld, (rT aj.out), (rT ak.out), (bT aa.out), (bT af.out), (bT ag.out), (bT ah.out), aJ.out, aK.out, al.out, ap.out, ax.out, ay.out, ar.out, au.out, aL.out, aM.out, ai.out, ao.out, av.out, aw.out, aN.out, aO.out, an.out, aq.out, (eT HB.out)⟩)
 rintro ⟨aH, aI, ae, ac, ad⟩ w19 ⟨hS_, h0_, h1_, h2_, h3_, h4_, h5_, h6_, h7_, h8_, h9_, h10_, h11_, h12_, h13_, h14_, h15_, h16_, h17_, h18_, h19_, h20_, h21_, h22_, h23_, h24_⟩
 have aj : Aside0 (Kd.R k27 27 w19 w.heap.size (fun k_ => k_ ≠ ac ∧ k_ ≠ ad) aH az) := ⟨h0_⟩
 have ak : Aside0 (Kd.R Kd.string 9 w19 w.heap.size (fun _ => True) aI aA) := ⟨h1_⟩
 replace aa : Aside0 (w19.heap[ab]? = some (.cells #[.slice aD l0_0.length aE, .slice aF l0_1.length aG, .string a0_2, .string a0_3, .string a0_4, .string a0_5, .string a0_6] 29 (0, 0))) := ⟨h2_⟩
 have af : Aside0 (w19.heap[ae]? = some (.cells #[.slice none 0 0, .slice none 0 0] 25 (0, 0))) := ⟨h3_⟩
 have ag : Aside0 (w19.heap[ac]? = some (.cells #[.string (⟨#[]⟩ : ByteArray), .string (⟨#[]⟩ : ByteArray)] 27 (0, 0))) := ⟨h4_⟩
 have ah : Aside0 (w19.heap[ad]? = some (.cells #[.string (⟨#[]⟩ : ByteArray), .string (⟨#[]⟩ : ByteArray)] 27 (0, 0))) := ⟨h5_⟩
 have aJ : Aside0 (w.heap.size ≤ ae) := ⟨h6_⟩
 have aK : Aside0 (w.heap.size ≤ ae) := ⟨h7_⟩
 have al : Aside0 (ab ≠ ae) := ⟨h8_⟩
 have ap : Aside0 (ae ≠ ab) := ⟨h9_⟩
 have ax : Aside0 (ac ≠ ae) := ⟨h10_⟩
 have ay : Aside0 (ae ≠ ac) := ⟨h11_⟩
 have ar : Aside0 (ad ≠ ae) := ⟨h12_⟩
 have au : Aside0 (ae ≠ ad) := ⟨h13_⟩
 have aL : Aside0 (w.heap.size ≤ ac) := ⟨h14_⟩
 have aM : Aside0 (w.heap.size ≤ ac) := ⟨h15_⟩
 have ai : Aside0 (ab ≠ ac) := ⟨h16_⟩
 have ao : Aside0 (ac ≠ ab) := ⟨h17_⟩
 have av : Aside0 (ad ≠ ac) := ⟨h18_⟩
 have aw : Aside0 (ac ≠ ad) := ⟨h19_⟩
 have aN : Aside0 (w.heap.size ≤ ad) := ⟨h20_⟩
 have aO : Aside0 (w.heap.size ≤ ad) := ⟨h21_⟩
 have an : Aside0 (ab ≠ ad) := ⟨h22_⟩
 have aq : Aside0 (ad ≠ ab) := ⟨h23_⟩
 replace HB : Aside0 (Below w.heap.size w w19) := ⟨h24_⟩
 clear h0_ h1_ h2_ h3_ h4_ h5_ h6_ h7_ h8_ h9_ h10_ h11_ h12_ h13_ h14_ h15_ h16_ h17_ h18_ h19_ h20_ h21_ h22_ h23_ h24_
 have hHeld := hS_
 (try dsimp only at hHeld)
 have H := HCx_.out
 clear HCx_
 by_cases c6 : cd = 0
 ·skip
  rw [if_pos c6] at H
  have gd : (cd == 0) = true := beq_iff_eq.mpr c6
  have ge : (cd != 0) = false := bne_eq_false_iff_eq.mpr c6
  clear c6
  replace H := Option.bind_eq_some_iff.mp H
  obtain ⟨⟨cb, cc⟩, A70, H⟩ := H
  replace H : ((store_Drop.f k aV aW aB aC).bind fun bt371 => ((store_Get.f k bt371.1 bt371.2.1 aB aC).bind fun bt379 => (if cb.toList = a0_6.toList then (if cc = 0 then (if bt371.2.2 = 0 then (if bt379.2 = 2 then ((store_Check.f k aV aW).bind fun bu => (if bu = 0 then ((store_Check.f k bt371.1 bt371.2.1).bind fun bF => (ISG.j0 k (bF != 0) az aA aB aC aP aQ aV aW bt371.1 bt371.2.1)) else (ISG.j0 k true az aA aB aC aP aQ aV aW bt371.1 bt371.2.1))) else (ISG.j0 k true az aA aB aC aP aQ aV aW bt371.1 bt371.2.1)) else (ISG.j0 k true az aA aB aC aP aQ aV aW bt371.1 bt371.2.1)) else (ISG.j0 k true az aA aB aC aP aQ aV aW bt371.1 bt371.2.1)) else (ISG.j0 k true az aA aB aC aP aQ aV aW bt371.1 bt371.2.1)))) = some r := H
  have A7 := Aside0.mk A70
  clear A70
  replace H := Option.bind_eq_some_iff.mp H
  obtain ⟨⟨a8, bg, ce⟩, A80, H⟩ := H
  replace H : ((store_Get.f k a8 bg aB aC).bind fun bt379 => (if cb.toList = a0_6.toList then (if cc = 0 then (if ce = 0 then (if bt379.2 = 2 then ((store_Check.f k aV aW).bind fun bu => (if bu = 0 then ((store_Check.f k a8 bg).bind fun bF => (ISG.j0 k (bF != 0) az aA aB aC aP aQ aV aW a8 bg)) else (ISG.j0 k true az aA aB aC aP aQ aV aW a8 bg))) else (ISG.j0 k true az aA aB aC aP aQ aV aW a8 bg)) else (ISG.j0 k true az aA aB aC aP aQ aV aW a8 bg)) else (ISG.j0 k true az aA aB aC aP aQ aV aW a8 bg)) else (ISG.j0 k true az aA aB aC aP aQ aV aW a8 bg))) = some r := H
  have A8 := Aside0.mk A80
  clear A80
  replace H := Option.bind_eq_some_iff.mp H
  obtain ⟨⟨gf, cj⟩, A90, H⟩ := H
  replace H : (if cb.toList = a0_6.toList then (if cc = 0 then (if ce = 0 then (if cj = 2 then ((store_Check.f k aV aW).bind fun bu => (if bu = 0 then ((store_Check.f k a8 bg).bind fun bF => (ISG.j0 k (bF != 0) az aA aB aC aP aQ aV aW a8 bg)) else (ISG.j0 k true az aA aB aC aP aQ aV aW a8 bg))) else (ISG.j0 k true az aA aB aC aP aQ aV aW a8 bg)) else (ISG.j0 k true az aA aB aC aP aQ aV aW a8 bg)) else (ISG.j0 k true az aA aB aC aP aQ aV aW a8 bg)) else (ISG.j0 k true az aA aB aC aP aQ aV aW a8 bg)) = some r := H
  have A9 := Aside0.mk A90
  clear A90
  have dQ := Aside0.mk H
  clear H
  obtain ⟨bv, bw, d0⟩ := Kd.R_slice aj.out
  (first | subst d0 | (injection d0 with f1_ f2_ f3_; have f4_ := f1_.symm; have f5_ := f3_.symm; clear f1_ f2_ f3_; subst f4_; subst f5_))
  obtain ⟨bG, bH, d1⟩ := Kd.R_slice ak.out
  (first | subst d1 | (injection d1 with f1_ f2_ f3_; have f4_ := f1_.symm; have f5_ := f3_.symm; clear f1_ f2_ f3_; subst f4_; subst f5_))
  refine rN ?_
  refine oT 14 (bA 18 32767) HT_.out fun K hK => ?_
  have i_ : w19.cell? ⟨ae, 0, none⟩ = some (.slice none 0 0) := cT af 0
  have hz := blk_frozen af.out 0
  have fv := al.out
  have fw := ax.out
  have fx := ar.out
  have fy := ap.out
  have fz := ay.out
  have fA := au.out
  have ja : w19.cell? ⟨ae, 1, none⟩ = some (.slice none 0 0) := cT af 1
  have hA := blk_frozen af.out 1
  have fC := al.out
  have fD := ax.out
  have fE := ar.out
  have fF := ap.out
  have fG := ay.out
  have fH := au.out
  refine skip_ (w1 := ?_) (by rfl) rfl ?_ ?_
  rotate_left
  ·go_simp
   rfl
  refine hK.out _ _ ⟨((cell_far (p := ⟨ae, _, none⟩) al.out _).trans (((cell_far (p := ⟨ae, _, none⟩) al.out _).trans (hHeld.1)))), ((cell_far (p := ⟨ae, _, none⟩) al.out _).trans (((cell_far (p := ⟨ae, _, none⟩) al.out _).trans (hHeld.2.1)))), ((cell_far (p := ⟨ae, _, none⟩) al.out _).trans (((cell_far (p := ⟨ae, _, none⟩) al.out _).trans (hHeld.2.2.1)))), ((cell_far (p := ⟨ae, _, none⟩) al.out _).trans (((cell_far (p := ⟨ae, _, none⟩) al.out _).trans (hHeld.2.2.2.1)))), ((cell_far (p := ⟨ae, _, none⟩) al.out _).trans (((cell_far (p := ⟨ae, _, none⟩) al.out _).trans (hHeld.2.2.2.2.1)))), ((cell_far (p := ⟨ae, _, none⟩) al.out _).trans (((cell_far (p := ⟨ae, _, none⟩) al.out _).trans (hHeld.2.2.2.2.2.1)))), ((cell_far (p := ⟨ae, _, none⟩) al.out _).trans (((cell_far (p := ⟨ae, _, none⟩) al.out _).trans (hHeld.2.2.2.2.2.2))))⟩ (fun hHeld => ?_)
  clear hK K
  refine oT 15 (bA 18 65535) HT_.out fun K hK => ?_
  have jb : w19.cell? ⟨ac, 0, none⟩ = some (.string (⟨#[]⟩ : ByteArray)) := cT ag 0
  have hB := blk_frozen ag.out 0
  have fI := ai.out
  have fJ := ay.out
  have fK := av.out
  have fL := ao.out
  have fM := ax.out
  have fN := aw.out
  have jc : w19.cell? ⟨ac, 1, none⟩ = some (.string (⟨#[]⟩ : ByteArray)) := cT ag 1
  have hC := blk_frozen ag.out 1
  have fO := ai.out
  have fP := ay.out
  have fQ := av.out
  have fR := ao.out
  have fS := ax.out
  have fT := aw.out
  refine skip_ (w1 := ?_) (by rfl) rfl ?_ ?_
  rotate_left
  ·go_simp
   rfl
  refine hK.out _ _ ⟨((cell_far (p := ⟨ac, _, none⟩) ai.out _).trans (((cell_far (p := ⟨ac, _, none⟩) ai.out _).trans (hHeld.1)))), ((cell_far (p := ⟨ac, _, none⟩) ai.out _).trans (((cell_far (p := ⟨ac, _, none⟩) ai.out _).trans (hHeld.2.1)))), ((cell_far (p := ⟨ac, _, none⟩) ai.out _).trans (((cell_far (p := ⟨ac, _, none⟩) ai.out _).trans (hHeld.2.2.1)))), ((cell_far (p := ⟨ac, _, none⟩) ai.out _).trans (((cell_far (p := ⟨ac, _, none⟩) ai.out _).trans (hHeld.2.2.2.1)))), ((cell_far (p := ⟨ac, _, none⟩) ai.out _).trans (((cell_far (p := ⟨ac, _, none⟩) ai.out _).trans (hHeld.2.2.2.2.1)))), ((cell_far (p := ⟨ac, _, none⟩) ai.out _).trans (((cell_far (p := ⟨ac, _, none⟩) ai.out _).trans (hHeld.2.2.2.2.2.1)))), ((cell_far (p := ⟨ac, _, none⟩) ai.out _).trans (((cell_far (p := ⟨ac, _, none⟩) ai.out _).trans (hHeld.2.2.2.2.2.2))))⟩ (fun hHeld => ?_)
  clear hK K
  refine oT 16 (bA 18 131071) HT_.out fun K hK => ?_
  have jd : w19.cell? ⟨ad, 0, none⟩ = some (.string (⟨#[]⟩ : ByteArray)) := cT ah 0
  have hD := blk_frozen ah.out 0
  have fU := an.out
  have fV := au.out
  have fW := aw.out
  have fX := aq.out
  have fY := ar.out
  have fZ := av.out
  have je : w19.cell? ⟨ad, 1, none⟩ = some (.string (⟨#[]⟩ : ByteArray)) := cT ah 1
  have hE := blk_frozen ah.out 1
  have f4 := an.out
  have f5 := au.out
  have f6 := aw.out
  have f7 := aq.out
  have f8 := ar.out
  have f9 := av.out
  refine skip_ (w1 := ?_) (by rfl) rfl ?_ ?_
  rotate_left
  ·go_simp
   rfl
  refine hK.out _ _ ⟨((cell_far (p := ⟨ad, _, none⟩) an.out _).trans (((cell_far (p := ⟨ad, _, none⟩) an.out _).trans (hHeld.1)))), ((cell_far (p := ⟨ad, _, none⟩) an.out _).trans (((cell_far (p := ⟨ad, _, none⟩) an.out _).trans (hHeld.2.1)))), ((cell_far (p := ⟨ad, _, none⟩) an.out _).trans (((cell_far (p := ⟨ad, _, none⟩) an.out _).trans (hHeld.2.2.1)))), ((cell_far (p := ⟨ad, _, none⟩) an.out _).trans (((cell_far (p := ⟨ad, _, none⟩) an.out _).trans (hHeld.2.2.2.1)))), ((cell_far (p := ⟨ad, _, none⟩) an.out _).trans (((cell_far (p := ⟨ad, _, none⟩) an.out _).trans (hHeld.2.2.2.2.1)))), ((cell_far (p := ⟨ad, _, none⟩) an.out _).trans (((cell_far (p := ⟨ad, _, none⟩) an.out _).trans (hHeld.2.2.2.2.2.1)))), ((cell_far (p := ⟨ad, _, none⟩) an.out _).trans (((cell_far (p := ⟨ad, _, none⟩) an.out _).trans (hHeld.2.2.2.2.2.2))))⟩ (fun hHeld => ?_)
  clear hK K
  refine pT 17 6 (bA 18 262143) HT_.out ?_
  refine done_ (done_of HT_.out (by kernel_rfl)) ?_
  have n0_ : Aside0 (Kd.R k27 27 ((((((w19.setCell ⟨ae, 0, none⟩ (.slice bv az.length bw)).setCell ⟨ae, 1, none⟩ (.slice bG aA.length bH)).setCell ⟨ac, 0, none⟩ (.string aB)).setCell ⟨ac, 1, none⟩ (.string aC)).setCell ⟨ad, 0, none⟩ (.string aP)).setCell ⟨ad, 1, none⟩ (.string aQ)) w.heap.size (fun k_ => k_ ≠ ac ∧ k_ ≠ ad) (.slice bv az.length bw) az) := ⟨by (with_reducible repeat (first | apply Kd.R_alloc | apply Kd.R_drewN | apply Kd.R_drew)); exact Kd.R_mono (Kd.R_far (p := ⟨ad, 1, none⟩) (Kd.R_far (p := ⟨ad, 0, none⟩) (Kd.R_far (p := ⟨ac, 1, none⟩) (Kd.R_far (p := ⟨ac, 0, none⟩) (Kd.R_far (p := ⟨ae, 1, none⟩) (Kd.R_far (p := ⟨ae, 0, none⟩) (Kd.R_mono (Kd.R_mono (Kd.R_types aj.out af.out (by decide)) (fun k_ hk => (⟨hk, hk.1.1⟩ : _ ∧ k_ ≠ ac))) (fun k_ hk => (⟨hk, hk.1.1.2⟩ : _ ∧ k_ ≠ ad))) (fun _ hk => hk.1.1.2) (.slice bv az.length bw)) (fun _ hk => hk.1.1.2) (.slice bG aA.length bH)) (fun _ hk => hk.1.2) (.string aB)) (fun _ hk => hk.1.2) (.string aC)) (fun _ hk => hk.2) (.string aP)) (fun _ hk => hk.2) (.string aQ)) (fun _ hk => ⟨hk.1.1.1.1, hk.1.1.1.2⟩)⟩
  have n1_ : Aside0 (Kd.R Kd.string 9 ((((((w19.setCell ⟨ae, 0, none⟩ (.slice bv az.length bw)).setCell ⟨ae, 1, none⟩ (.slice bG aA.length bH)).setCell ⟨ac, 0, none⟩ (.string aB)).setCell ⟨ac, 1, none⟩ (.string aC)).setCell ⟨ad, 0, none⟩ (.string aP)).setCell ⟨ad, 1, none⟩ (.string aQ)) w.heap.size (fun _ => True) (.slice bG aA.length bH) aA) := ⟨by (with_reducible repeat (first | apply Kd.R_alloc | apply Kd.R_drewN | apply Kd.R_drew)); exact Kd.R_mono (Kd.R_far (p := ⟨ad, 1, none⟩) (Kd.R_far (p := ⟨ad, 0, none⟩) (Kd.R_far (p := ⟨ac, 1, none⟩) (Kd.R_far (p := ⟨ac, 0, none⟩) (Kd.R_far (p := ⟨ae, 1, none⟩) (Kd.R_far (p := ⟨ae, 0, none⟩) (Kd.R_types (Kd.R_types (Kd.R_types ak.out af.out (by decide)) ag.out (by decide)) ah.out (by decide)) (fun _ hk => hk.1.1.2) (.slice bv az.length bw)) (fun _ hk => hk.1.1.2) (.slice bG aA.length bH)) (fun _ hk => hk.1.2) (.string aB)) (fun _ hk => hk.1.2) (.string aC)) (fun _ hk => hk.2) (.string aP)) (fun _ hk => hk.2) (.string aQ)) (fun _ hk => trivial)⟩
  have n2_ : Aside0 (((((((w19.setCell ⟨ae, 0, none⟩ (.slice bv az.length bw)).setCell ⟨ae, 1, none⟩ (.slice bG aA.length bH)).setCell ⟨ac, 0, none⟩ (.string aB)).setCell ⟨ac, 1, none⟩ (.string aC)).setCell ⟨ad, 0, none⟩ (.string aP)).setCell ⟨ad, 1, none⟩ (.string aQ)).heap[ab]? = some (.cells #[.slice aD l0_0.length aE, .slice aF l0_1.length aG, .string a0_2, .string a0_3, .string a0_4, .string a0_5, .string a0_6] 29 (0, 0))) := ⟨by (with_reducible repeat (first | apply bn | apply bd | apply ba)); refine blk_far ?_ an.out _; (with_reducible repeat (first | apply bn | apply bd | apply ba)); refine blk_far ?_ an.out _; (with_reducible repeat (first | apply bn | apply bd | apply ba)); refine blk_far ?_ ai.out _; (with_reducible repeat (first | apply bn | apply bd | apply ba)); refine blk_far ?_ ai.out _; (with_reducible repeat (first | apply bn | apply bd | apply ba)); refine blk_far ?_ al.out _; (with_reducible repeat (first | apply bn | apply bd | apply ba)); refine blk_far ?_ al.out _; exact bT aa.out⟩
  have n3_ : Aside0 (((((((w19.setCell ⟨ae, 0, none⟩ (.slice bv az.length bw)).setCell ⟨ae, 1, none⟩ (.slice bG aA.length bH)).setCell ⟨ac, 0, none⟩ (.string aB)).setCell ⟨ac, 1, none⟩ (.string aC)).setCell ⟨ad, 0, none⟩ (.string aP)).setCell ⟨ad, 1, none⟩ (.string aQ)).heap[ae]? = some (.cells #[.slice bv az.length bw, .slice bG aA.length bH] 25 (0, 0))) := ⟨by (with_reducible repeat (first | apply bn | apply bd | apply ba)); refine blk_far ?_ au.out _; (with_reducible repeat (first | apply bn | apply bd | apply ba)); refine blk_far ?_ au.out _; (with_reducible repeat (first | apply bn | apply bd | apply ba)); refine blk_far ?_ ay.out _; (with_reducible repeat (first | apply bn | apply bd | apply ba)); refine blk_far ?_ ay.out _; (with_reducible repeat (first | apply bn | apply bd | apply ba)); refine blk_put (cs := #[.slice bv az.length bw, .slice none 0 0]) ?_ 1 _ rfl; (with_reducible repeat (first | apply bn | apply bd | apply ba)); refine blk_put (cs := #[.slice none 0 0, .slice none 0 0]) ?_ 0 _ rfl; exact bT af.out⟩
  have n4_ : Aside0 (((((((w19.setCell ⟨ae, 0, none⟩ (.slice bv az.length bw)).setCell ⟨ae, 1, none⟩ (.slice bG aA.length bH)).setCell ⟨ac, 0, none⟩ (.string aB)).setCell ⟨ac, 1, none⟩ (.string aC)).setCell ⟨ad, 0, none⟩ (.string aP)).setCell ⟨ad, 1, none⟩ (.string aQ)).heap[ac]? = some (.cells #[.string aB, .string aC] 27 (0, 0))) := ⟨by (with_reducible repeat (first | apply bn | apply bd | apply ba)); refine blk_far ?_ aw.out _; (with_reducible repeat (first | apply bn | apply bd | apply ba)); refine blk_far ?_ aw.out _; (with_reducible repeat (first | apply bn | apply bd | apply ba)); refine blk_put (cs := #[.string aB, .string (⟨#[]⟩ : ByteArray)]) ?_ 1 _ rfl; (with_reducible repeat (first | apply bn | apply bd | apply ba)); refine blk_put (cs := #[.string (⟨#[]⟩ : ByteArray), .string (⟨#[]⟩ : ByteArray)]) ?_ 0 _ rfl; (with_reducible repeat (first | apply bn | apply bd | apply ba)); refine blk_far ?_ ax.out _; (with_reducible repeat (first | apply bn | apply bd | apply ba)); refine blk_far ?_ ax.out _; exact bT ag.out⟩
  have n5_ : Aside0 (((((((w19.setCell ⟨ae, 0, none⟩ (.slice bv az.length bw)).setCell ⟨ae, 1, none⟩ (.slice bG aA.length bH)).setCell ⟨ac, 0, none⟩ (.string aB)).setCell ⟨ac, 1, none⟩ (.string aC)).setCell ⟨ad, 0, none⟩ (.string aP)).setCell ⟨ad, 1, none⟩ (.string aQ)).heap[ad]? = some (.cells #[.string aP, .string aQ] 27 (0, 0))) := ⟨by (with_reducible repeat (first | apply bn | apply bd | apply ba)); refine blk_put (cs := #[.string aP, .string (⟨#[]⟩ : ByteArray)]) ?_ 1 _ rfl; (with_reducible repeat (first | apply bn | apply bd | apply ba)); refine blk_put (cs := #[.string (⟨#[]⟩ : ByteArray), .string (⟨#[]⟩ : ByteArray)]) ?_ 0 _ rfl; (with_reducible repeat (first | apply bn | apply bd | apply ba)); refine blk_far ?_ av.out _; (with_reducible repeat (first | apply bn | apply bd | apply ba)); refine blk_far ?_ av.out _; (with_reducible repeat (first | apply bn | apply bd | apply ba)); refine blk_far ?_ ar.out _; (with_reducible repeat (first | apply bn | apply bd | apply ba)); refine blk_far ?_ ar.out _; exact bT ah.out⟩
  have n6_ : Aside0 (Below w.heap.size w ((((((w19.setCell ⟨ae, 0, none⟩ (.slice bv az.length bw)).setCell ⟨ae, 1, none⟩ (.slice bG aA.length bH)).setCell ⟨ac, 0, none⟩ (.string aB)).setCell ⟨ac, 1, none⟩ (.string aC)).setCell ⟨ad, 0, none⟩ (.string aP)).setCell ⟨ad, 1, none⟩ (.string aQ))) := ⟨by repeat (first | (with_reducible first | exact HB.out | apply pA | apply pN | apply pD | refine eU ?_ (by assumption)) | exact HB.out)⟩
  (try clear aj)
  (try clear ak)
  (try clear aa)
  (try clear af)
  (try clear ag)
  (try clear ah)
  (try clear HB)
  generalize ((((((w19.setCell ⟨ae, 0, none⟩ (.slice bv az.length bw)).setCell ⟨ae, 1, none⟩ (.slice bG aA.length bH)).setCell ⟨ac, 0, none⟩ (.string aB)).setCell ⟨ac, 1, none⟩ (.string aC)).setCell ⟨ad, 0, none⟩ (.string aP)).setCell ⟨ad, 1, none⟩ (.string aQ)) = w28 at n0_ n1_ n2_ n3_ n4_ n5_ n6_ ⊢
  have aj := n0_
  have ak := n1_
  have aa := n2_
  have af := n3_
  have ag := n4_
  have ah := n5_
  have HB := n6_
  clear n0_ n1_ n2_ n3_ n4_ n5_ n6_
  have hF := ap.out
  have hG := al.out
  have hH := ay.out
  have hI := ax.out
  have hJ := au.out
  have hL := ar.out
  have cB : w28.cell? ⟨ae, 0, none⟩ = some (.slice bv az.length bw) := cT af 0
  have cC : w28.cell? ⟨ae, 1, none⟩ = some (.slice bG aA.length bH) := cT af 1
  have cD := blk_frozen af.out 0
  have cE := blk_frozen af.out 1
  have hM := ao.out
  have hN := ai.out
  have hO := aw.out
  have hP := av.out
  have cF : w28.cell? ⟨ac, 0, none⟩ = some (.string aB) := cT ag 0
  have cG : w28.cell? ⟨ac, 1, none⟩ = some (.string aC) := cT ag 1
  have cH := blk_frozen ag.out 0
  have cI := blk_frozen ag.out 1
  go_upto_region 8 with (first | ((with_reducible refine gate_callee (f := 9) rfl ?_); refine gL (some 36) Tryd.func9 #[.agg #[.slice bv az.length bw, .slice bG aA.length bH], .agg #[.string aB, .string aC], .string a0_6] ?_; (with_reducible refine (store_Put.calls k (fun k_ => some k_ = (.slice bv az.length bw : Value).ownBlock) _ _ az (fun k_ => some k_ = (.slice bG aA.length bH : Value).ownBlock) _ _ aA aB aC a0_6 aV aW cd _ ?side1 ?side2 A5.out).mono ?_); (case side1 => exact Kd.R_V (Kd.R_tight rfl (Kd.R_types (Kd.R_types (Kd.R_apart' (aj.out) (Kd.R_typed ak.out) (by decide)) aa.out (by decide)) af.out (by decide)))); (case side2 => exact Kd.R_V (Kd.R_tight rfl (Kd.R_types (Kd.R_types (Kd.R_types (Kd.R_types (Kd.R_apart' (ak.out) (Kd.R_typed aj.out) (by decide)) aa.out (by decide)) af.out (by decide)) ag.out (by decide)) ah.out (by decide)))); rintro e w36 ⟨gg, gh, rfl, ho0, ho1, hb⟩; refine ⟨_, rfl, ?_⟩; have aZ := am (Kd.V_lower (Kd.V_mono (ok' := fun k_ => k_ ≠ ab ∧ k_ ≠ ae ∧ k_ ≠ ac ∧ k_ ≠ ad) ho0 (fun k_ hk_ => ⟨Or.elim hk_ (fun hs_ => Or.elim hs_ (fun hs_ => ((Kd.R_types (Kd.R_types (Kd.R_apart' (aj.out) (Kd.R_typed ak.out) (by decide)) aa.out (by decide)) af.out (by decide)).1 k_ hs_.symm).1.2) (fun hs_ => ((Kd.R_types (Kd.R_types (Kd.R_types (Kd.R_types (Kd.R_apart' (ak.out) (Kd.R_typed aj.out) (by decide)) aa.out (by decide)) af.out (by decide)) ag.out (by decide)) ah.out (by decide)).1 k_ hs_.symm).1.1.1.2)) (fun hn_ => (Kd.freshB (g := ab) (o := .cells #[.slice aD l0_0.length aE, .slice aF l0_1.length aG, .string a0_2, .string a0_3, .string a0_4, .string a0_5, .string a0_6] 29 (0, 0)) (bT aa.out) k_ hn_)), Or.elim hk_ (fun hs_ => Or.elim hs_ (fun hs_ => ((Kd.R_types (Kd.R_types (Kd.R_apart' (aj.out) (Kd.R_typed ak.out) (by decide)) aa.out (by decide)) af.out (by decide)).1 k_ hs_.symm).2) (fun hs_ => ((Kd.R_types (Kd.R_types (Kd.R_types (Kd.R_types (Kd.R_apart' (ak.out) (Kd.R_typed aj.out) (by decide)) aa.out (by decide)) af.out (by decide)) ag.out (by decide)) ah.out (by decide)).1 k_ hs_.symm).1.1.2)) (fun hn_ => (Kd.freshB (g := ae) (o := .cells #[.slice bv az.length bw, .slice bG aA.length bH] 25 (0, 0)) (bT af.out) k_ hn_)), Or.elim hk_ (fun hs_ => Or.elim hs_ (fun hs_ => ((Kd.R_types (Kd.R_types (Kd.R_apart' (aj.out) (Kd.R_typed ak.out) (by decide)) aa.out (by decide)) af.out (by decide)).1 k_ hs_.symm).1.1.1.1) (fun hs_ => ((Kd.R_types (Kd.R_types (Kd.R_types (Kd.R_types (Kd.R_apart' (ak.out) (Kd.R_typed aj.out) (by decide)) aa.out (by decide)) af.out (by decide)) ag.out (by decide)) ah.out (by decide)).1 k_ hs_.symm).1.2)) (fun hn_ => (Kd.freshB (g := ac) (o := .cells #[.string aB, .string aC] 27 (0, 0)) (bT ag.out) k_ hn_)), Or.elim hk_ (fun hs_ => Or.elim hs_ (fun hs_ => ((Kd.R_types (Kd.R_types (Kd.R_apart' (aj.out) (Kd.R_typed ak.out) (by decide)) aa.out (by decide)) af.out (by decide)).1 k_ hs_.symm).1.1.1.2) (fun hs_ => ((Kd.R_types (Kd.R_types (Kd.R_types (Kd.R_types (Kd.R_apart' (ak.out) (Kd.R_typed aj.out) (by decide)) aa.out (by decide)) af.out (by decide)) ag.out (by decide)) ah.out (by decide)).1 k_ hs_.symm).2)) (fun hn_ => (Kd.freshB (g := ad) (o := .cells #[.string aP, .string aQ] 27 (0, 0)) (bT ah.out) k_ hn_))⟩)) (below_size (by repeat (first | (with_reducible first | exact HB.out | apply pA | apply pN | apply pD | refine eU ?_ (by assumption)) | exact HB.out)))); have a7 := am (Kd.V_lower (Kd.V_mono (ok' := fun k_ => k_ ≠ ab ∧ k_ ≠ ae ∧ k_ ≠ ac ∧ k_ ≠ ad) ho1 (fun k_ hk_ => ⟨Or.elim hk_ (fun hs_ => Or.elim hs_ (fun hs_ => ((Kd.R_types (Kd.R_types (Kd.R_apart' (aj.out) (Kd.R_typed ak.out) (by decide)) aa.out (by decide)) af.out (by decide)).1 k_ hs_.symm).1.2) (fun hs_ => ((Kd.R_types (Kd.R_types (Kd.R_types (Kd.R_types (Kd.R_apart' (ak.out) (Kd.R_typed aj.out) (by decide)) aa.out (by decide)) af.out (by decide)) ag.out (by decide)) ah.out (by decide)).1 k_ hs_.symm).1.1.1.2)) (fun hn_ => (Kd.freshB (g := ab) (o := .cells #[.slice aD l0_0.length aE, .slice aF l0_1.length aG, .string a0_2, .string a0_3, .string a0_4, .string a0_5, .string a0_6] 29 (0, 0)) (bT aa.out) k_ hn_)), Or.elim hk_ (fun hs_ => Or.elim hs_ (fun hs_ => ((Kd.R_types (Kd.R_types (Kd.R_apart' (aj.out) (Kd.R_typed ak.out) (by decide)) aa.out (by decide)) af.out (by decide)).1 k_ hs_.symm).2) (fun hs_ => ((Kd.R_types (Kd.R_types (Kd.R_types (Kd.R_types (Kd.R_apart' (ak.out) (Kd.R_typed aj.out) (by decide)) aa.out (by decide)) af.out (by decide)) ag.out (by decide)) ah.out (by decide)).1 k_ hs_.symm).1.1.2)) (fun hn_ => (Kd.freshB (g := ae) (o := .cells #[.slice bv az.length bw, .slice bG aA.length bH] 25 (0, 0)) (bT af.out) k_ hn_)), Or.elim hk_ (fun hs_ => Or.elim hs_ (fun hs_ => ((Kd.R_types (Kd.R_types (Kd.R_apart' (aj.out) (Kd.R_typed ak.out) (by decide)) aa.out (by decide)) af.out (by decide)).1 k_ hs_.symm).1.1.1.1) (fun hs_ => ((Kd.R_types (Kd.R_types (Kd.R_types (Kd.R_types (Kd.R_apart' (ak.out) (Kd.R_typed aj.out) (by decide)) aa.out (by decide)) af.out (by decide)) ag.out (by decide)) ah.out (by decide)).1 k_ hs_.symm).1.2)) (fun hn_ => (Kd.freshB (g := ac) (o := .cells #[.string aB, .string aC] 27 (0, 0)) (bT ag.out) k_ hn_)), Or.elim hk_ (fun hs_ => Or.elim hs_ (fun hs_ => ((Kd.R_types (Kd.R_types (Kd.R_apart' (aj.out) (Kd.R_typed ak.out) (by decide)) aa.out (by decide)) af.out (by decide)).1 k_ hs_.symm).1.1.1.2) (fun hs_ => ((Kd.R_types (Kd.R_types (Kd.R_types (Kd.R_types (Kd.R_apart' (ak.out) (Kd.R_typed aj.out) (by decide)) aa.out (by decide)) af.out (by decide)) ag.out (by decide)) ah.out (by decide)).1 k_ hs_.symm).2)) (fun hn_ => (Kd.freshB (g := ad) (o := .cells #[.string aP, .string aQ] 27 (0, 0)) (bT ah.out) k_ hn_))⟩)) (below_size (by repeat (first | (with_reducible first | exact HB.out | apply pA | apply pN | apply pD | refine eU ?_ (by assumption)) | exact HB.out)))); replace aj := am (rB aj.out hb); replace ak := am (rB ak.out hb); replace aa := am (bB aa.out hb); replace af := am (bB af.out hb); replace ag := am (bB ag.out hb); replace ah := am (bB ah.out hb); replace HB := am (below_step (by repeat (first | (with_reducible first | exact HB.out | apply pA | apply pN | apply pD | refine eU ?_ (by assumption)) | exact HB.out)) hb); (try clear hb); (try clear hb2); (try clear hk); (try clear hi); (try clear ho0); (try clear ho1)) | ((with_reducible refine gate_dst (N := 7) rfl ?_); refine box_event ?hg (N := 7) ?hd (cs := #[.slice none 0 0, .slice none 0 0]) (t := 25) ?hr ?_; (case hd => rfl); (case hg => rfl); (case hr => first | (go_simp; done) | (go_simp; rfl)); intro aU hg w37 hbox hb; replace aj := am (rB aj.out hb); replace ak := am (rB ak.out hb); replace aZ := am (Kd.V_below (Kd.V_elderB (vT aZ.out) aU (Nat.le_of_eq hg.symm)) hb); replace a7 := am (Kd.V_below (Kd.V_elderB (vT a7.out) aU (Nat.le_of_eq hg.symm)) hb); have aR := am (hbox); have d2 := am ((by rw [hg]; exact (below_size (by repeat (first | (with_reducible first | exact HB.out | apply pA | apply pN | apply pD | refine eU ?_ (by assumption)) | exact HB.out))) : w.heap.size ≤ aU)); have d3 := am ((by rw [hg]; exact (below_size (by repeat (first | (with_reducible first | exact HB.out | apply pA | apply pN | apply pD | refine eU ?_ (by assumption)) | exact HB.out))) : w.heap.size ≤ aU)); have bj := am ((nT aa.out hg)); have bx := am ((mT aa.out hg)); have bk := am ((nT af.out hg)); have bz := am ((mT af.out hg)); have bh := am ((nT ag.out hg)); have bs := am ((mT ag.out hg)); have bi := am ((nT ah.out hg)); have bt := am ((mT ah.out hg)); replace aa := am (bB aa.out hb); replace af := am (bB af.out hb); replace ag := am (bB ag.out hb); replace ah := am (bB ah.out hb); replace HB := am (below_step (by repeat (first | (with_reducible first | exact HB.out | apply pA | apply pN | apply pD | refine eU ?_ (by assumption)) | exact HB.out)) hb); clear hb hbox hg; obtain ⟨bL, bK, gi⟩ := Kd.V_slice aZ.out; subst gi; have hQ := bx.out; have hR := bj.out; have hS := bz.out; have hT := bk.out; have hU := bs.out; have hV := bh.out; have hW := bt.out; have hX := bi.out; have cJ : w37.cell? ⟨aU, 0, none⟩ = some (.slice none 0 0) := cT aR 0; have cK : w37.cell? ⟨aU, 1, none⟩ = some (.slice none 0 0) := cT aR 1; have cL := blk_frozen aR.out 0; have cM := blk_frozen aR.out 1; obtain ⟨bN, bM, gj⟩ := Kd.V_slice a7.out; subst gj; have cN : w37.cell? ⟨ac, 0, none⟩ = some (.string aB) := cT ag 0; have cO : w37.cell? ⟨ac, 1, none⟩ = some (.string aC) := cT ag 1; have cP := blk_frozen ag.out 0; have cQ := blk_frozen ag.out 1) | ((with_reducible refine gate_callee (f := 11) rfl ?_); refine gL (some 45) Tryd.func11 #[.agg #[.slice bL aV.length bK, .slice bN aW.length bM], .agg #[.string aB, .string aC]] ?_; (with_reducible refine (store_Get.calls k _ _ aV _ _ aW aB aC cb cc _ ?side1 ?side2 ?side3 ?side4 A7.out).mono ?_); (case side1 => refine (Kd.V_reads' (e := 27) (base := w.heap.size) (ok := fun k_ => ((k_ ≠ ab ∧ (k_ ≠ ae ∧ (k_ ≠ ac ∧ k_ ≠ ad))) ∧ k_ ≠ aU)) (n := aV.length) (c := bK) ?_).2.2; exact (by (with_reducible repeat (first | apply Kd.V_alloc | apply Kd.V_drewN | apply Kd.V_drew)); exact (Kd.V_mono (Kd.V_far (p := ⟨aU, 1, none⟩) (Kd.V_far (p := ⟨aU, 0, none⟩) (Kd.V_mono aZ.out (fun k_ hk => (⟨hk, hk.2⟩ : _ ∧ k_ ≠ aU))) (fun _ hk => hk.2) (.slice bL aV.length bK)) (fun _ hk => hk.2) (.slice bN aW.length bM)) (fun _ h_ => h_.1)))); (case side2 => exact (Kd.V_reads' aZ.out).2.1); (case side3 => refine (Kd.V_reads' (e := 9) (base := w.heap.size) (ok := fun k_ => ((k_ ≠ ab ∧ (k_ ≠ ae ∧ (k_ ≠ ac ∧ k_ ≠ ad))) ∧ k_ ≠ aU)) (n := aW.length) (c := bM) ?_).2.2; exact (by (with_reducible repeat (first | apply Kd.V_alloc | apply Kd.V_drewN | apply Kd.V_drew)); exact (Kd.V_mono (Kd.V_far (p := ⟨aU, 1, none⟩) (Kd.V_far (p := ⟨aU, 0, none⟩) (Kd.V_mono a7.out (fun k_ hk => (⟨hk, hk.2⟩ : _ ∧ k_ ≠ aU))) (fun _ hk => hk.2) (.slice bL aV.length bK)) (fun _ hk => hk.2) (.slice bN aW.length bM)) (fun _ h_ => h_.1)))); (case side4 => exact (Kd.V_reads' a7.out).2.1); rintro e w46 ⟨rfl, hb⟩; refine ⟨_, rfl, ?_⟩; replace aj := am (Kd.R_below (by (with_reducible repeat (first | apply Kd.R_alloc | apply Kd.R_drewN | apply Kd.R_drew)); exact (Kd.R_mono (Kd.R_far (p := ⟨aU, 1, none⟩) (Kd.R_far (p := ⟨aU, 0, none⟩) (Kd.R_types aj.out aR.out (by decide)) (fun _ hk => hk.2) (.slice bL aV.length bK)) (fun _ hk => hk.2) (.slice bN aW.length bM)) (fun _ h_ => h_.1))) hb); replace ak := am (Kd.R_below (by (with_reducible repeat (first | apply Kd.R_alloc | apply Kd.R_drewN | apply Kd.R_drew)); exact (Kd.R_mono (Kd.R_far (p := ⟨aU, 1, none⟩) (Kd.R_far (p := ⟨aU, 0, none⟩) (Kd.R_types ak.out aR.out (by decide)) (fun _ hk => hk.2) (.slice bL aV.length bK)) (fun _ hk => hk.2) (.slice bN aW.length bM)) (fun _ h_ => h_.1))) hb); replace aZ := am (Kd.V_below (by (with_reducible repeat (first | apply Kd.V_alloc | apply Kd.V_drewN | apply Kd.V_drew)); exact (Kd.V_mono (Kd.V_far (p := ⟨aU, 1, none⟩) (Kd.V_far (p := ⟨aU, 0, none⟩) (Kd.V_mono aZ.out (fun k_ hk => (⟨hk, hk.2⟩ : _ ∧ k_ ≠ aU))) (fun _ hk => hk.2) (.slice bL aV.length bK)) (fun _ hk => hk.2) (.slice bN aW.length bM)) (fun _ h_ => h_.1))) hb); replace a7 := am (Kd.V_below (by (with_reducible repeat (first | apply Kd.V_alloc | apply Kd.V_drewN | apply Kd.V_drew)); exact (Kd.V_mono (Kd.V_far (p := ⟨aU, 1, none⟩) (Kd.V_far (p := ⟨aU, 0, none⟩) (Kd.V_mono a7.out (fun k_ hk => (⟨hk, hk.2⟩ : _ ∧ k_ ≠ aU))) (fun _ hk => hk.2) (.slice bL aV.length bK)) (fun _ hk => hk.2) (.slice bN aW.length bM)) (fun _ h_ => h_.1))) hb); replace aa := am (blk_below (g := ab) (o := .cells #[.slice aD l0_0.length aE, .slice aF l0_1.length aG, .string a0_2, .string a0_3, .string a0_4, .string a0_5, .string a0_6] 29 (0, 0)) (by (with_reducible repeat (first | apply bn | apply bd | apply ba)); refine blk_far ?_ bj.out _; (with_reducible repeat (first | apply bn | apply bd | apply ba)); refine blk_far ?_ bj.out _; exact bT aa.out) hb); replace af := am (blk_below (g := ae) (o := .cells #[.slice bv az.length bw, .slice bG aA.length bH] 25 (0, 0)) (by (with_reducible repeat (first | apply bn | apply bd | apply ba)); refine blk_far ?_ bk.out _; (with_reducible repeat (first | apply bn | apply bd | apply ba)); refine blk_far ?_ bk.out _; exact bT af.out) hb); replace ag := am (blk_below (g := ac) (o := .cells #[.string aB, .string aC] 27 (0, 0)) (by (with_reducible repeat (first | apply bn | apply bd | apply ba)); refine blk_far ?_ bh.out _; (with_reducible repeat (first | apply bn | apply bd | apply ba)); refine blk_far ?_ bh.out _; exact bT ag.out) hb); replace ah := am (blk_below (g := ad) (o := .cells #[.string aP, .string aQ] 27 (0, 0)) (by (with_reducible repeat (first | apply bn | apply bd | apply ba)); refine blk_far ?_ bi.out _; (with_reducible repeat (first | apply bn | apply bd | apply ba)); refine blk_far ?_ bi.out _; exact bT ah.out) hb); replace HB := am (below_step (by repeat (first | (with_reducible first | exact HB.out | apply pA | apply pN | apply pD | refine eU ?_ (by assumption)) | exact HB.out)) hb); replace aR := am (blk_below (g := aU) (o := .cells #[.slice bL aV.length bK, .slice bN aW.length bM] 25 (0, 0)) (by (with_reducible repeat (first | apply bn | apply bd | apply ba)); refine blk_put (cs := #[.slice bL aV.length bK, .slice none 0 0]) ?_ 1 _ rfl; (with_reducible repeat (first | apply bn | apply bd | apply ba)); refine blk_put (cs := #[.slice none 0 0, .slice none 0 0]) ?_ 0 _ rfl; exact bT aR.out) hb); (try clear hb); (try clear hb2); (try clear hk); (try clear hi); have cR : w46.cell? ⟨aU, 0, none⟩ = some (.slice bL aV.length bK) := cT aR 0; have cS : w46.cell? ⟨aU, 1, none⟩ = some (.slice bN aW.length bM) := cT aR 1; have cU := blk_frozen aR.out 0; have cV := blk_frozen aR.out 1; have cX : w46.cell? ⟨ac, 0, none⟩ = some (.string aB) := cT ag 0; have cY : w46.cell? ⟨ac, 1, none⟩ = some (.string aC) := cT ag 1; have cZ := blk_frozen ag.out 0; have c_ := blk_frozen ag.out 1) | ((with_reducible refine gate_callee (f := 12) rfl ?_); refine gL (some 51) Tryd.func12 #[.agg #[.slice bL aV.length bK, .slice bN aW.length bM], .agg #[.string aB, .string aC]] ?_; (with_reducible refine (store_Drop.calls k (fun k_ => ((k_ ≠ ab ∧ (k_ ≠ ae ∧ (k_ ≠ ac ∧ k_ ≠ ad))) ∧ k_ ≠ aU)) _ _ aV (fun k_ => ((k_ ≠ ab ∧ (k_ ≠ ae ∧ (k_ ≠ ac ∧ k_ ≠ ad))) ∧ k_ ≠ aU)) _ _ aW aB aC a8 bg ce _ ?side1 ?side2 A8.out).mono ?_); (case side1 => exact aZ.out); (case side2 => exact a7.out); rintro e w49 ⟨jf, jg, rfl, ho0, ho1, hb⟩; refine ⟨_, rfl, ?_⟩; replace aj := am (rB aj.out hb); replace ak := am (rB ak.out hb); replace aZ := am (vB aZ.out hb); replace a7 := am (vB a7.out hb); have bl := am (Kd.V_lower (Kd.V_mono (ok' := fun k_ => k_ ≠ ab ∧ k_ ≠ ae ∧ k_ ≠ ac ∧ k_ ≠ ad ∧ k_ ≠ aU) ho0 (fun k_ hk_ => ⟨oE hk_ (·.1.1) (fB aa.out k_), oE hk_ (·.1.2.1) (fB af.out k_), oE hk_ (·.1.2.2.1) (fB ag.out k_), oE hk_ (·.1.2.2.2) (fB ah.out k_), oE hk_ (·.2) (fB aR.out k_)⟩)) (below_size (by repeat (first | (with_reducible first | exact HB.out | apply pA | apply pN | apply pD | refine eU ?_ (by assumption)) | exact HB.out)))); have bm := am (Kd.V_lower (Kd.V_mono (ok' := fun k_ => k_ ≠ ab ∧ k_ ≠ ae ∧ k_ ≠ ac ∧ k_ ≠ ad ∧ k_ ≠ aU) ho1 (fun k_ hk_ => ⟨oE hk_ (·.1.1) (fB aa.out k_), oE hk_ (·.1.2.1) (fB af.out k_), oE hk_ (·.1.2.2.1) (fB ag.out k_), oE hk_ (·.1.2.2.2) (fB ah.out k_), oE hk_ (·.2) (fB aR.out k_)⟩)) (below_size (by repeat (first | (with_reducible first | exact HB.out | apply pA | apply pN | apply pD | refine eU ?_ (by assumption)) | exact HB.out)))); replace aa := am (bB aa.out hb); replace af := am (bB af.out hb); replace ag := am (bB ag.out hb); replace ah := am (bB ah.out hb); replace aR := am (bB aR.out hb); replace HB := am (below_step (by repeat (first | (with_reducible first | exact HB.out | apply pA | apply pN | apply pD | refine eU ?_ (by assumption)) | exact HB.out)) hb); (try clear hb); (try clear hb2); (try clear hk); (try clear hi); (try clear ho0); (try clear ho1)) | ((with_reducible refine gate_dst (N := 11) rfl ?_); refine box_event ?hg (N := 11) ?hd (cs := #[.slice none 0 0, .slice none 0 0]) (t := 25) ?hr ?_; (case hd => rfl); (case hg => rfl); (case hr => first | (go_simp; done) | (go_simp; rfl)); intro aX hg w50 hbox hb; replace aj := am (rB aj.out hb); replace ak := am (rB ak.out hb); replace aZ := am (Kd.V_below (Kd.V_elderB (vT aZ.out) aX (Nat.le_of_eq hg.symm)) hb); replace a7 := am (Kd.V_below (Kd.V_elderB (vT a7.out) aX (Nat.le_of_eq hg.symm)) hb); replace bl := am (Kd.V_below (Kd.V_elderB (vT bl.out) aX (Nat.le_of_eq hg.symm)) hb); replace bm := am (Kd.V_below (Kd.V_elderB (vT bm.out) aX (Nat.le_of_eq hg.symm)) hb); have aY := am (hbox); have hY := am ((by rw [hg]; exact (below_size (by repeat (first | (with_reducible first | exact HB.out | apply pA | apply pN | apply pD | refine eU ?_ (by assumption)) | exact HB.out))) : w.heap.size ≤ aX)); have hZ := am ((by rw [hg]; exact (below_size (by repeat (first | (with_reducible first | exact HB.out | apply pA | apply pN | apply pD | refine eU ?_ (by assumption)) | exact HB.out))) : w.heap.size ≤ aX)); have bI := am ((nT aa.out hg)); have b0 := am ((mT aa.out hg)); have bJ := am ((nT af.out hg)); have b1 := am ((mT af.out hg)); have bC := am ((nT ag.out hg)); have bR := am ((mT ag.out hg)); have bD := am ((nT ah.out hg)); have bS := am ((mT ah.out hg)); have bE := am ((nT aR.out hg)); have bU := am ((mT aR.out hg)); replace aa := am (bB aa.out hb); replace af := am (bB af.out hb); replace ag := am (bB ag.out hb); replace ah := am (bB ah.out hb); replace aR := am (bB aR.out hb); replace HB := am (below_step (by repeat (first | (with_reducible first | exact HB.out | apply pA | apply pN | apply pD | refine eU ?_ (by assumption)) | exact HB.out)) hb); clear hb hbox hg; obtain ⟨bV, bO, gk⟩ := Kd.V_slice bl.out; subst gk; have h4 := b0.out; have h5 := bI.out; have h6 := b1.out; have h7 := bJ.out; have h8 := bR.out; have h9 := bC.out; have ia := bS.out; have ib := bD.out; have ic := bU.out; have id := bE.out; have da : w50.cell? ⟨aX, 0, none⟩ = some (.slice none 0 0) := cT aY 0; have db : w50.cell? ⟨aX, 1, none⟩ = some (.slice none 0 0) := cT aY 1; have dc := blk_frozen aY.out 0; have dd := blk_frozen aY.out 1; obtain ⟨bX, bW, gl⟩ := Kd.V_slice bm.out; subst gl; have de : w50.cell? ⟨ac, 0, none⟩ = some (.string aB) := cT ag 0; have df : w50.cell? ⟨ac, 1, none⟩ = some (.string aC) := cT ag 1; have dg := blk_frozen ag.out 0; have dh := blk_frozen ag.out 1) | ((with_reducible refine gate_callee (f := 11) rfl ?_); refine gL (some 57) Tryd.func11 #[.agg #[.slice bV a8.length bO, .slice bX bg.length bW], .agg #[.string aB, .string aC]] ?_; (with_reducible refine (store_Get.calls k _ _ a8 _ _ bg aB aC gf cj _ ?side1 ?side2 ?side3 ?side4 A9.out).mono ?_); (case side1 => refine (Kd.V_reads' (e := 27) (base := w.heap.size) (ok := fun k_ => ((k_ ≠ ab ∧ (k_ ≠ ae ∧ (k_ ≠ ac ∧ (k_ ≠ ad ∧ k_ ≠ aU)))) ∧ k_ ≠ aX)) (n := a8.length) (c := bO) ?_).2.2; exact (by (with_reducible repeat (first | apply Kd.V_alloc | apply Kd.V_drewN | apply Kd.V_drew)); exact (Kd.V_mono (Kd.V_far (p := ⟨aX, 1, none⟩) (Kd.V_far (p := ⟨aX, 0, none⟩) (Kd.V_mono bl.out (fun k_ hk => (⟨hk, hk.2⟩ : _ ∧ k_ ≠ aX))) (fun _ hk => hk.2) (.slice bV a8.length bO)) (fun _ hk => hk.2) (.slice bX bg.length bW)) (fun _ h_ => h_.1)))); (case side2 => exact (Kd.V_reads' bl.out).2.1); (case side3 => refine (Kd.V_reads' (e := 9) (base := w.heap.size) (ok := fun k_ => ((k_ ≠ ab ∧ (k_ ≠ ae ∧ (k_ ≠ ac ∧ (k_ ≠ ad ∧ k_ ≠ aU)))) ∧ k_ ≠ aX)) (n := bg.length) (c := bW) ?_).2.2; exact (by (with_reducible repeat (first | apply Kd.V_alloc | apply Kd.V_drewN | apply Kd.V_drew)); exact (Kd.V_mono (Kd.V_far (p := ⟨aX, 1, none⟩) (Kd.V_far (p := ⟨aX, 0, none⟩) (Kd.V_mono bm.out (fun k_ hk => (⟨hk, hk.2⟩ : _ ∧ k_ ≠ aX))) (fun _ hk => hk.2) (.slice bV a8.length bO)) (fun _ hk => hk.2) (.slice bX bg.length bW)) (fun _ h_ => h_.1)))); (case side4 => exact (Kd.V_reads' bm.out).2.1); rintro e w60 ⟨rfl, hb⟩; refine ⟨_, rfl, ?_⟩; replace aj := am (Kd.R_below (by (with_reducible repeat (first | apply Kd.R_alloc | apply Kd.R_drewN | apply Kd.R_drew)); exact (Kd.R_mono (Kd.R_far (p := ⟨aX, 1, none⟩) (Kd.R_far (p := ⟨aX, 0, none⟩) (Kd.R_types aj.out aY.out (by decide)) (fun _ hk => hk.2) (.slice bV a8.length bO)) (fun _ hk => hk.2) (.slice bX bg.length bW)) (fun _ h_ => h_.1))) hb); replace ak := am (Kd.R_below (by (with_reducible repeat (first | apply Kd.R_alloc | apply Kd.R_drewN | apply Kd.R_drew)); exact (Kd.R_mono (Kd.R_far (p := ⟨aX, 1, none⟩) (Kd.R_far (p := ⟨aX, 0, none⟩) (Kd.R_types ak.out aY.out (by decide)) (fun _ hk => hk.2) (.slice bV a8.length bO)) (fun _ hk => hk.2) (.slice bX bg.length bW)) (fun _ h_ => h_.1))) hb); replace aZ := am (Kd.V_below (by (with_reducible repeat (first | apply Kd.V_alloc | apply Kd.V_drewN | apply Kd.V_drew)); exact (Kd.V_mono (Kd.V_far (p := ⟨aX, 1, none⟩) (Kd.V_far (p := ⟨aX, 0, none⟩) (Kd.V_mono aZ.out (fun k_ hk => (⟨hk, hk.2⟩ : _ ∧ k_ ≠ aX))) (fun _ hk => hk.2) (.slice bV a8.length bO)) (fun _ hk => hk.2) (.slice bX bg.length bW)) (fun _ h_ => h_.1))) hb); replace a7 := am (Kd.V_below (by (with_reducible repeat (first | apply Kd.V_alloc | apply Kd.V_drewN | apply Kd.V_drew)); exact (Kd.V_mono (Kd.V_far (p := ⟨aX, 1, none⟩) (Kd.V_far (p := ⟨aX, 0, none⟩) (Kd.V_mono a7.out (fun k_ hk => (⟨hk, hk.2⟩ : _ ∧ k_ ≠ aX))) (fun _ hk => hk.2) (.slice bV a8.length bO)) (fun _ hk => hk.2) (.slice bX bg.length bW)) (fun _ h_ => h_.1))) hb); replace bl := am (Kd.V_below (by (with_reducible repeat (first | apply Kd.V_alloc | apply Kd.V_drewN | apply Kd.V_drew)); exact (Kd.V_mono (Kd.V_far (p := ⟨aX, 1, none⟩) (Kd.V_far (p := ⟨aX, 0, none⟩) (Kd.V_mono bl.out (fun k_ hk => (⟨hk, hk.2⟩ : _ ∧ k_ ≠ aX))) (fun _ hk => hk.2) (.slice bV a8.length bO)) (fun _ hk => hk.2) (.slice bX bg.length bW)) (fun _ h_ => h_.1))) hb); replace bm := am (Kd.V_below (by (with_reducible repeat (first | apply Kd.V_alloc | apply Kd.V_drewN | apply Kd.V_drew)); exact (Kd.V_mono (Kd.V_far (p := ⟨aX, 1, none⟩) (Kd.V_far (p := ⟨aX, 0, none⟩) (Kd.V_mono bm.out (fun k_ hk => (⟨hk, hk.2⟩ : _ ∧ k_ ≠ aX))) (fun _ hk => hk.2) (.slice bV a8.length bO)) (fun _ hk => hk.2) (.slice bX bg.length bW)) (fun _ h_ => h_.1))) hb); replace aa := am (blk_below (g := ab) (o := .cells #[.slice aD l0_0.length aE, .slice aF l0_1.length aG, .string a0_2, .string a0_3, .string a0_4, .string a0_5, .string a0_6] 29 (0, 0)) (by (with_reducible repeat (first | apply bn | apply bd | apply ba)); refine blk_far ?_ bI.out _; (with_reducible repeat (first | apply bn | apply bd | apply ba)); refine blk_far ?_ bI.out _; exact bT aa.out) hb); replace af := am (blk_below (g := ae) (o := .cells #[.slice bv az.length bw, .slice bG aA.length bH] 25 (0, 0)) (by (with_reducible repeat (first | apply bn | apply bd | apply ba)); refine blk_far ?_ bJ.out _; (with_reducible repeat (first | apply bn | apply bd | apply ba)); refine blk_far ?_ bJ.out _; exact bT af.out) hb); replace ag := am (blk_below (g := ac) (o := .cells #[.string aB, .string aC] 27 (0, 0)) (by (with_reducible repeat (first | apply bn | apply bd | apply ba)); refine blk_far ?_ bC.out _; (with_reducible repeat (first | apply bn | apply bd | apply ba)); refine blk_far ?_ bC.out _; exact bT ag.out) hb); replace ah := am (blk_below (g := ad) (o := .cells #[.string aP, .string aQ] 27 (0, 0)) (by (with_reducible repeat (first | apply bn | apply bd | apply ba)); refine blk_far ?_ bD.out _; (with_reducible repeat (first | apply bn | apply bd | apply ba)); refine blk_far ?_ bD.out _; exact bT ah.out) hb); replace aR := am (blk_below (g := aU) (o := .cells #[.slice bL aV.length bK, .slice bN aW.length bM] 25 (0, 0)) (by (with_reducible repeat (first | apply bn | apply bd | apply ba)); refine blk_far ?_ bE.out _; (with_reducible repeat (first | apply bn | apply bd | apply ba)); refine blk_far ?_ bE.out _; exact bT aR.out) hb); replace HB := am (below_step (by repeat (first | (with_reducible first | exact HB.out | apply pA | apply pN | apply pD | refine eU ?_ (by assumption)) | exact HB.out)) hb); replace aY := am (blk_below (g := aX) (o := .cells #[.slice bV a8.length bO, .slice bX bg.length bW] 25 (0, 0)) (by (with_reducible repeat (first | apply bn | apply bd | apply ba)); refine blk_put (cs := #[.slice bV a8.length bO, .slice none 0 0]) ?_ 1 _ rfl; (with_reducible repeat (first | apply bn | apply bd | apply ba)); refine blk_put (cs := #[.slice none 0 0, .slice none 0 0]) ?_ 0 _ rfl; exact bT aY.out) hb); (try clear hb); (try clear hb2); (try clear hk); (try clear hi)))
  (try simp only [Act.put, List.setIfInBounds_toArray, List.set_cons_zero, List.set_cons_succ])
  go_cut [84] (fun v84 wc => ∃ (kq : Nat) (cq : Bool), v84 = .bool cq ∧ Aside0 (ISG.j0 kq cq az aA aB aC aP aQ aV aW a8 bg = some r) ∧ Aside0 (kq ≤ k) ∧ Aside0 (Kd.R k27 27 wc w.heap.size (fun k_ => k_ ≠ ac ∧ k_ ≠ ad) (.slice bv az.length bw) az) ∧ Aside0 (Kd.R Kd.string 9 wc w.heap.size (fun _ => True) (.slice bG aA.length bH) aA) ∧ Aside0 (Kd.V k27 27 wc w.heap.size (fun k_ => k_ ≠ ab ∧ k_ ≠ ae ∧ k_ ≠ ac ∧ k_ ≠ ad ∧ k_ ≠ aU ∧ k_ ≠ aX) (.slice bL aV.length bK) aV) ∧ Aside0 (Kd.V Kd.string 9 wc w.heap.size (fun k_ => k_ ≠ ab ∧ k_ ≠ ae ∧ k_ ≠ ac ∧ k_ ≠ ad ∧ k_ ≠ aU ∧ k_ ≠ aX) (.slice bN aW.length bM) aW) ∧ Aside0 (Kd.V k27 27 wc w.heap.size (fun k_ => k_ ≠ ab ∧ k_ ≠ ae ∧ k_ ≠ ac ∧ k_ ≠ ad ∧ k_ ≠ aU ∧ k_ ≠ aX) (.slice bV a8.length bO) a8) ∧ Aside0 (Kd.V Kd.string 9 wc w.heap.size (fun k_ => k_ ≠ ab ∧ k_ ≠ ae ∧ k_ ≠ ac ∧ k_ ≠ ad ∧ k_ ≠ aU ∧ k_ ≠ aX) (.slice bX bg.length bW) bg) ∧ Aside0 (wc.heap[ab]? = some (.cells #[(.slice aD l0_0.length aE), (.slice aF l0_1.length aG), .string a0_2, .string a0_3, .string a0_4, .string a0_5, .string a0_6] 29 (0, 0))) ∧ Aside0 (wc.heap[ae]? = some (.cells #[(.slice bv az.length bw), (.slice bG aA.length bH)] 25 (0, 0))) ∧ Aside0 (wc.heap[ac]? = some (.cells #[.string aB, .string aC] 27 (0, 0))) ∧ Aside0 (wc.heap[ad]? = some (.cells #[.string aP, .string aQ] 27 (0, 0))) ∧ Aside0 (wc.heap[aU]? = some (.cells #[(.slice bL aV.length bK), (.slice bN aW.length bM)] 25 (0, 0))) ∧ Aside0 (wc.heap[aX]? = some (.cells #[(.slice bV a8.length bO), (.slice bX bg.length bW)] 25 (0, 0))) ∧ Aside0 (Below w.heap.size w wc))
  case first =>
   have H := dQ.out
   clear dQ
   by_cases c61 : cb.toList = a0_6.toList
   ·rw [if_pos c61] at H
    have b9 : (cb.toList == a0_6.toList) = true := beq_iff_eq.mpr c61
    have dz : (cb.toList != a0_6.toList) = false := bne_eq_false_iff_eq.mpr c61
    clear c61
    (first | rw [b9] | (simp only [i64_w, i32_w]; rw [b9]) | skip)
    by_cases c62 : cc = 0
    ·rw [if_pos c62] at H
     have dA : (cc == 0) = true := beq_iff_eq.mpr c62
     have dB : (cc != 0) = false := bne_eq_false_iff_eq.mpr c62
     clear c62
     by_cases c63 : ce = 0
     ·rw [if_pos c63] at H
      have dC : (ce == 0) = true := beq_iff_eq.mpr c63
      have dD : (ce != 0) = false := bne_eq_false_iff_eq.mpr c63
      clear c63
      by_cases c64 : cj = 2
      ·rw [if_pos c64] at H
       have dE : (cj == 2) = true := beq_iff_eq.mpr c64
       have dF : (cj != 2) = false := bne_eq_false_iff_eq.mpr c64
       clear c64
       replace H := Option.bind_eq_some_iff.mp H
       obtain ⟨bu, d4, H⟩ := H
       replace H : (if bu = 0 then ((store_Check.f k a8 bg).bind fun bF => (ISG.j0 k (bF != 0) az aA aB aC aP aQ aV aW a8 bg)) else (ISG.j0 k true az aA aB aC aP aQ aV aW a8 bg)) = some r := H
       have A65 := Aside0.mk d4
       clear d4
       by_cases c66 : bu = 0
       ·rw [if_pos c66] at H
        have dG : (bu == 0) = true := beq_iff_eq.mpr c66
        have dH : (bu != 0) = false := bne_eq_false_iff_eq.mpr c66
        clear c66
        replace H := Option.bind_eq_some_iff.mp H
        obtain ⟨bF, d5, H⟩ := H
        replace H : (ISG.j0 k (bF != 0) az aA aB aC aP aQ aV aW a8 bg) = some r := H
        have A67 := Aside0.mk d5
        clear d5
        have H' := Aside0.mk H
        clear H
        have ie := bx.out
        have ig := bj.out
        have ih := bz.out
        have ii := bk.out
        have ij := bs.out
        have ik := bh.out
        have il := bt.out
        have im := bi.out
        have io := bE.out
        have ip := bU.out
        have di : w60.cell? ⟨aU, 0, none⟩ = some (.slice bL aV.length bK) := cT aR 0
        have dj : w60.cell? ⟨aU, 1, none⟩ = some (.slice bN aW.length bM) := cT aR 1
        have dk := blk_frozen aR.out 0
        have dl := blk_frozen aR.out 1
        go_wp2_with (first | (go_at_call 13; (with_reducible refine (store_Check.calls k _ _ aV _ _ aW bu _ ?side1 ?side2 ?side3 ?side4 A65.out).mono ?_); (case side1 => exact cW (Kd.V_reads' aZ.out).2.2); (case side2 => exact (Kd.V_reads' aZ.out).2.1); (case side3 => exact cW (Kd.V_reads' a7.out).2.2); (case side4 => exact (Kd.V_reads' a7.out).2.1); rintro e w74 ⟨rfl, hb⟩; replace aj := am (rB aj.out hb); replace ak := am (rB ak.out hb); replace aZ := am (vB aZ.out hb); replace a7 := am (vB a7.out hb); replace bl := am (vB bl.out hb); replace bm := am (vB bm.out hb); replace aa := am (bB aa.out hb); replace af := am (bB af.out hb); replace ag := am (bB ag.out hb); replace ah := am (bB ah.out hb); replace aR := am (bB aR.out hb); replace aY := am (bB aY.out hb); replace HB := am (sT HB.out hb); (try clear hb); (try clear hb2); (try clear hk); (try clear hi); have iq := b0.out; have ir := bI.out; have iu := b1.out; have iv := bJ.out; have iw := bR.out; have ix := bC.out; have iy := bS.out; have iz := bD.out; have dm : w74.cell? ⟨aX, 0, none⟩ = some (.slice bV a8.length bO) := cT aY 0; have dn : w74.cell? ⟨aX, 1, none⟩ = some (.slice bX bg.length bW) := cT aY 1; have dp := blk_frozen aY.out 0; have dq := blk_frozen aY.out 1) | (go_at_call 13; (with_reducible refine (store_Check.calls k _ _ a8 _ _ bg bF _ ?side1 ?side2 ?side3 ?side4 A67.out).mono ?_); (case side1 => exact cW (Kd.V_reads' bl.out).2.2); (case side2 => exact (Kd.V_reads' bl.out).2.1); (case side3 => exact cW (Kd.V_reads' bm.out).2.2); (case side4 => exact (Kd.V_reads' bm.out).2.1); rintro e w80 ⟨rfl, hb⟩; replace aj := am (rB aj.out hb); replace ak := am (rB ak.out hb); replace aZ := am (vB aZ.out hb); replace a7 := am (vB a7.out hb); replace bl := am (vB bl.out hb); replace bm := am (vB bm.out hb); replace aa := am (bB aa.out hb); replace af := am (bB af.out hb); replace ag := am (bB ag.out hb); replace ah := am (bB ah.out hb); replace aR := am (bB aR.out hb); replace aY := am (bB aY.out hb); replace HB := am (sT HB.out hb); (try clear hb); (try clear hb2); (try clear hk); (try clear hi)))
        go_meet
        case rel => exact ⟨_, ((bF != 0)), (by first | rfl | (simp; done) | (simp [*]; done)), H', ⟨by first | omega | exact Nat.le_refl _⟩, ⟨rT aj.out⟩, ⟨rT ak.out⟩, ⟨by (with_reducible repeat (first | apply Kd.V_alloc | apply Kd.V_drewN | apply Kd.V_drew)); exact Kd.V_mono aZ.out (fun _ hk => ⟨hk.1.1.1, ⟨hk.1.1.2.1, ⟨hk.1.1.2.2.1, ⟨hk.1.1.2.2.2, ⟨hk.1.2, hk.2⟩⟩⟩⟩⟩)⟩, ⟨by (with_reducible repeat (first | apply Kd.V_alloc | apply Kd.V_drewN | apply Kd.V_drew)); exact Kd.V_mono a7.out (fun _ hk => ⟨hk.1.1.1, ⟨hk.1.1.2.1, ⟨hk.1.1.2.2.1, ⟨hk.1.1.2.2.2, ⟨hk.1.2, hk.2⟩⟩⟩⟩⟩)⟩, ⟨by (with_reducible repeat (first | apply Kd.V_alloc | apply Kd.V_drewN | apply Kd.V_drew)); exact Kd.V_mono bl.out (fun _ hk => ⟨hk.1.1, ⟨hk.1.2.1, ⟨hk.1.2.2.1, ⟨hk.1.2.2.2.1, ⟨hk.1.2.2.2.2, hk.2⟩⟩⟩⟩⟩)⟩, ⟨by (with_reducible repeat (first | apply Kd.V_alloc | apply Kd.V_drewN | apply Kd.V_drew)); exact Kd.V_mono bm.out (fun _ hk => ⟨hk.1.1, ⟨hk.1.2.1, ⟨hk.1.2.2.1, ⟨hk.1.2.2.2.1, ⟨hk.1.2.2.2.2, hk.2⟩⟩⟩⟩⟩)⟩, ⟨bT aa.out⟩, ⟨bT af.out⟩, ⟨bT ag.out⟩, ⟨bT ah.out⟩, ⟨bT aR.out⟩, ⟨bT aY.out⟩, ⟨eT HB.out⟩⟩
       ·rw [if_neg c66] at H
        have dG : (bu == 0) = false := beq_eq_false_iff_ne.mpr c66
        have dH : (bu != 0) = true := bne_iff_ne.mpr c66
        have H' := Aside0.mk H
        clear H
        have iA := bx.out
        have iB := bj.out
        have iC := bz.out
        have iD := bk.out
        have iE := bs.out
        have iG := bh.out
        have iH := bt.out
        have iI := bi.out
        have iJ := bE.out
        have iK := bU.out
        have dr : w60.cell? ⟨aU, 0, none⟩ = some (.slice bL aV.length bK) := cT aR 0
        have dt : w60.cell? ⟨aU, 1, none⟩ = some (.slice bN aW.length bM) := cT aR 1
        have du := blk_frozen aR.out 0
        have dv := blk_frozen aR.out 1
        go_wp2_with (first | (go_at_call 13; (with_reducible refine (store_Check.calls k _ _ aV _ _ aW bu _ ?side1 ?side2 ?side3 ?side4 A65.out).mono ?_); (case side1 => exact cW (Kd.V_reads' aZ.out).2.2); (case side2 => exact (Kd.V_reads' aZ.out).2.1); (case side3 => exact cW (Kd.V_reads' a7.out).2.2); (case side4 => exact (Kd.V_reads' a7.out).2.1); rintro e w87 ⟨rfl, hb⟩; replace aj := am (rB aj.out hb); replace ak := am (rB ak.out hb); replace aZ := am (vB aZ.out hb); replace a7 := am (vB a7.out hb); replace bl := am (vB bl.out hb); replace bm := am (vB bm.out hb); replace aa := am (bB aa.out hb); replace af := am (bB af.out hb); replace ag := am (bB ag.out hb); replace ah := am (bB ah.out hb); replace aR := am (bB aR.out hb); replace aY := am (bB aY.out hb); replace HB := am (sT HB.out hb); (try clear hb); (try clear hb2); (try clear hk); (try clear hi)))
        go_meet
        case rel => exact ⟨_, (true), (by first | rfl | (simp; done) | (simp [*]; done)), H', ⟨by first | omega | exact Nat.le_refl _⟩, ⟨rT aj.out⟩, ⟨rT ak.out⟩, ⟨by (with_reducible repeat (first | apply Kd.V_alloc | apply Kd.V_drewN | apply Kd.V_drew)); exact Kd.V_mono aZ.out (fun _ hk => ⟨hk.1.1.1, ⟨hk.1.1.2.1, ⟨hk.1.1.2.2.1, ⟨hk.1.1.2.2.2, ⟨hk.1.2, hk.2⟩⟩⟩⟩⟩)⟩, ⟨by (with_reducible repeat (first | apply Kd.V_alloc | apply Kd.V_drewN | apply Kd.V_drew)); exact Kd.V_mono a7.out (fun _ hk => ⟨hk.1.1.1, ⟨hk.1.1.2.1, ⟨hk.1.1.2.2.1, ⟨hk.1.1.2.2.2, ⟨hk.1.2, hk.2⟩⟩⟩⟩⟩)⟩, ⟨by (with_reducible repeat (first | apply Kd.V_alloc | apply Kd.V_drewN | apply Kd.V_drew)); exact Kd.V_mono bl.out (fun _ hk => ⟨hk.1.1, ⟨hk.1.2.1, ⟨hk.1.2.2.1, ⟨hk.1.2.2.2.1, ⟨hk.1.2.2.2.2, hk.2⟩⟩⟩⟩⟩)⟩, ⟨by (with_reducible repeat (first | apply Kd.V_alloc | apply Kd.V_drewN | apply Kd.V_drew)); exact Kd.V_mono bm.out (fun _ hk => ⟨hk.1.1, ⟨hk.1.2.1, ⟨hk.1.2.2.1, ⟨hk.1.2.2.2.1, ⟨hk.1.2.2.2.2, hk.2⟩⟩⟩⟩⟩)⟩, ⟨bT aa.out⟩, ⟨bT af.out⟩, ⟨bT ag.out⟩, ⟨bT ah.out⟩, ⟨bT aR.out⟩, ⟨bT aY.out⟩, ⟨eT HB.out⟩⟩
      ·rw [if_neg c64] at H
       have dE : (cj == 2) = false := beq_eq_false_iff_ne.mpr c64
       have dF : (cj != 2) = true := bne_iff_ne.mpr c64
       have H' := Aside0.mk H
       clear H
       go_wp2
       go_meet
       case rel => exact ⟨_, (true), (by first | rfl | (simp; done) | (simp [*]; done)), H', ⟨by first | omega | exact Nat.le_refl _⟩, ⟨rT aj.out⟩, ⟨rT ak.out⟩, ⟨by (with_reducible repeat (first | apply Kd.V_alloc | apply Kd.V_drewN | apply Kd.V_drew)); exact Kd.V_mono aZ.out (fun _ hk => ⟨hk.1.1.1, ⟨hk.1.1.2.1, ⟨hk.1.1.2.2.1, ⟨hk.1.1.2.2.2, ⟨hk.1.2, hk.2⟩⟩⟩⟩⟩)⟩, ⟨by (with_reducible repeat (first | apply Kd.V_alloc | apply Kd.V_drewN | apply Kd.V_drew)); exact Kd.V_mono a7.out (fun _ hk => ⟨hk.1.1.1, ⟨hk.1.1.2.1, ⟨hk.1.1.2.2.1, ⟨hk.1.1.2.2.2, ⟨hk.1.2, hk.2⟩⟩⟩⟩⟩)⟩, ⟨by (with_reducible repeat (first | apply Kd.V_alloc | apply Kd.V_drewN | apply Kd.V_drew)); exact Kd.V_mono bl.out (fun _ hk => ⟨hk.1.1, ⟨hk.1.2.1, ⟨hk.1.2.2.1, ⟨hk.1.2.2.2.1, ⟨hk.1.2.2.2.2, hk.2⟩⟩⟩⟩⟩)⟩, ⟨by (with_reducible repeat (first | apply Kd.V_alloc | apply Kd.V_drewN | apply Kd.V_drew)); exact Kd.V_mono bm.out (fun _ hk => ⟨hk.1.1, ⟨hk.1.2.1, ⟨hk.1.2.2.1, ⟨hk.1.2.2.2.1, ⟨hk.1.2.2.2.2, hk.2⟩⟩⟩⟩⟩)⟩, ⟨bT aa.out⟩, ⟨bT af.out⟩, ⟨bT ag.out⟩, ⟨bT ah.out⟩, ⟨bT aR.out⟩, ⟨bT aY.out⟩, ⟨eT HB.out⟩⟩
     ·rw [if_neg c63] at H
      have dC : (ce == 0) = false := beq_eq_false_iff_ne.mpr c63
      have dD : (ce != 0) = true := bne_iff_ne.mpr c63
      have H' := Aside0.mk H
      clear H
      go_wp2
      go_meet
      case rel => exact ⟨_, (true), (by first | rfl | (simp; done) | (simp [*]; done)), H', ⟨by first | omega | exact Nat.le_refl _⟩, ⟨rT aj.out⟩, ⟨rT ak.out⟩, ⟨by (with_reducible repeat (first | apply Kd.V_alloc | apply Kd.V_drewN | apply Kd.V_drew)); exact Kd.V_mono aZ.out (fun _ hk => ⟨hk.1.1.1, ⟨hk.1.1.2.1, ⟨hk.1.1.2.2.1, ⟨hk.1.1.2.2.2, ⟨hk.1.2, hk.2⟩⟩⟩⟩⟩)⟩, ⟨by (with_reducible repeat (first | apply Kd.V_alloc | apply Kd.V_drewN | apply Kd.V_drew)); exact Kd.V_mono a7.out (fun _ hk => ⟨hk.1.1.1, ⟨hk.1.1.2.1, ⟨hk.1.1.2.2.1, ⟨hk.1.1.2.2.2, ⟨hk.1.2, hk.2⟩⟩⟩⟩⟩)⟩, ⟨by (with_reducible repeat (first | apply Kd.V_alloc | apply Kd.V_drewN | apply Kd.V_drew)); exact Kd.V_mono bl.out (fun _ hk => ⟨hk.1.1, ⟨hk.1.2.1, ⟨hk.1.2.2.1, ⟨hk.1.2.2.2.1, ⟨hk.1.2.2.2.2, hk.2⟩⟩⟩⟩⟩)⟩, ⟨by (with_reducible repeat (first | apply Kd.V_alloc | apply Kd.V_drewN | apply Kd.V_drew)); exact Kd.V_mono bm.out (fun _ hk => ⟨hk.1.1, ⟨hk.1.2.1, ⟨hk.1.2.2.1, ⟨hk.1.2.2.2.1, ⟨hk.1.2.2.2.2, hk.2⟩⟩⟩⟩⟩)⟩, ⟨bT aa.out⟩, ⟨bT af.out⟩, ⟨bT ag.out⟩, ⟨bT ah.out⟩, ⟨bT aR.out⟩, ⟨bT aY.out⟩, ⟨eT HB.out⟩⟩
    ·rw [if_neg c62] at H
     have dA : (cc == 0) = false := beq_eq_false_iff_ne.mpr c62
     have dB : (cc != 0) = true := bne_iff_ne.mpr c62
     have H' := Aside0.mk H
     clear H
     go_wp2
     go_meet
     case rel => exact ⟨_, (true), (by first | rfl | (simp; done) | (simp [*]; done)), H', ⟨by first | omega | exact Nat.le_refl _⟩, ⟨rT aj.out⟩, ⟨rT ak.out⟩, ⟨by (with_reducible repeat (first | apply Kd.V_alloc | apply Kd.V_drewN | apply Kd.V_drew)); exact Kd.V_mono aZ.out (fun _ hk => ⟨hk.1.1.1, ⟨hk.1.1.2.1, ⟨hk.1.1.2.2.1, ⟨hk.1.1.2.2.2, ⟨hk.1.2, hk.2⟩⟩⟩⟩⟩)⟩, ⟨by (with_reducible repeat (first | apply Kd.V_alloc | apply Kd.V_drewN | apply Kd.V_drew)); exact Kd.V_mono a7.out (fun _ hk => ⟨hk.1.1.1, ⟨hk.1.1.2.1, ⟨hk.1.1.2.2.1, ⟨hk.1.1.2.2.2, ⟨hk.1.2, hk.2⟩⟩⟩⟩⟩)⟩, ⟨by (with_reducible repeat (first | apply Kd.V_alloc | apply Kd.V_drewN | apply Kd.V_drew)); exact Kd.V_mono bl.out (fun _ hk => ⟨hk.1.1, ⟨hk.1.2.1, ⟨hk.1.2.2.1, ⟨hk.1.2.2.2.1, ⟨hk.1.2.2.2.2, hk.2⟩⟩⟩⟩⟩)⟩, ⟨by (with_reducible repeat (first | apply Kd.V_alloc | apply Kd.V_drewN | apply Kd.V_drew)); exact Kd.V_mono bm.out (fun _ hk => ⟨hk.1.1, ⟨hk.1.2.1, ⟨hk.1.2.2.1, ⟨hk.1.2.2.2.1, ⟨hk.1.2.2.2.2, hk.2⟩⟩⟩⟩⟩)⟩, ⟨bT aa.out⟩, ⟨bT af.out⟩, ⟨bT ag.out⟩, ⟨bT ah.out⟩, ⟨bT aR.out⟩, ⟨bT aY.out⟩, ⟨eT HB.out⟩⟩
   ·rw [if_neg c61] at H
    have b9 : (cb.toList == a0_6.toList) = false := beq_eq_false_iff_ne.mpr c61
    have dz : (cb.toList != a0_6.toList) = true := bne_iff_ne.mpr c61
    (first | rw [b9] | (simp only [i64_w, i32_w]; rw [b9]) | skip)
    have H' := Aside0.mk H
    clear H
    go_wp2
    go_meet
    case rel => exact ⟨_, (true), (by first | rfl | (simp; done) | (simp [*]; done)), H', ⟨by first | omega | exact Nat.le_refl _⟩, ⟨rT aj.out⟩, ⟨rT ak.out⟩, ⟨by (with_reducible repeat (first | apply Kd.V_alloc | apply Kd.V_drewN | apply Kd.V_drew)); exact Kd.V_mono aZ.out (fun _ hk => ⟨hk.1.1.1, ⟨hk.1.1.2.1, ⟨hk.1.1.2.2.1, ⟨hk.1.1.2.2.2, ⟨hk.1.2, hk.2⟩⟩⟩⟩⟩)⟩, ⟨by (with_reducible repeat (first | apply Kd.V_alloc | apply Kd.V_drewN | apply Kd.V_drew)); exact Kd.V_mono a7.out (fun _ hk => ⟨hk.1.1.1, ⟨hk.1.1.2.1, ⟨hk.1.1.2.2.1, ⟨hk.1.1.2.2.2, ⟨hk.1.2, hk.2⟩⟩⟩⟩⟩)⟩, ⟨by (with_reducible repeat (first | apply Kd.V_alloc | apply Kd.V_drewN | apply Kd.V_drew)); exact Kd.V_mono bl.out (fun _ hk => ⟨hk.1.1, ⟨hk.1.2.1, ⟨hk.1.2.2.1, ⟨hk.1.2.2.2.1, ⟨hk.1.2.2.2.2, hk.2⟩⟩⟩⟩⟩)⟩, ⟨by (with_reducible repeat (first | apply Kd.V_alloc | apply Kd.V_drewN | apply Kd.V_drew)); exact Kd.V_mono bm.out (fun _ hk => ⟨hk.1.1, ⟨hk.1.2.1, ⟨hk.1.2.2.1, ⟨hk.1.2.2.2.1, ⟨hk.1.2.2.2.2, hk.2⟩⟩⟩⟩⟩)⟩, ⟨bT aa.out⟩, ⟨bT af.out⟩, ⟨bT ag.out⟩, ⟨bT ah.out⟩, ⟨bT aR.out⟩, ⟨bT aY.out⟩, ⟨eT HB.out⟩⟩
  case rest =>
   clear dQ
   try clear c1
   try clear c2
   try clear p2
   try clear c3
   try clear c4
   try clear c5
   try clear c6
   try clear c7
   try clear c8
   try clear c9
   try clear c11
   try clear c12
   try clear c29
   try clear c30
   try clear c31
   try clear c33
   try clear c34
   try clear c39
   try clear c40
   try clear c41
   try clear c42
   try clear c52
   try clear c53
   try clear c54
   try clear c55
   try clear c56
   try clear c61
   try clear b9
   try clear dz
   try clear c62
   try clear dA
   try clear dB
   try clear c63
   try clear dC
   try clear dD
   try clear c64
   try clear dE
   try clear dF
   try clear c66
   try clear dG
   try clear dH
   try clear c68
   try clear c69
   try clear c70
   try clear c71
   try clear c72
   try clear c75
   try clear c76
   try clear c77
   try clear c78
   try clear c81
   try clear c82
   try clear c83
   try clear c84
   try clear c85
   try clear cB
   try clear cC
   try clear cF
   try clear cG
   try clear cJ
   try clear cK
   try clear cN
   try clear cO
   try clear cR
   try clear cS
   try clear cX
   try clear cY
   try clear da
   try clear db
   try clear de
   try clear df
   try clear di
   try clear dj
   try clear dm
   try clear dn
   try clear dr
   try clear dt
   try clear cD
   try clear cE
   try clear cH
   try clear cI
   try clear cL
   try clear cM
   try clear cP
   try clear cQ
   try clear cU
   try clear cV
   try clear cZ
   try clear c_
   try clear dc
   try clear dd
   try clear dg
   try clear dh
   try clear dk
   try clear dl
   try clear dp
   try clear dq
   try clear du
   try clear dv
   obtain ⟨kq, cq, rfl, HA, HJ9, a9, a_, bb, bc, be, bf, aa, af, ag, ah, aR, aY, HB⟩ := hcut
   cases kq with
   | zero => exact absurd HA.out (by simp [ISG.j0])
   | succ kj9 =>
    have H := HA.out
    clear HA
    simp only [ISG.j0] at H
    by_cases c88 : cq = true
    ·subst c88
     have H1 : (some false) = some r := by rw [if_pos rfl] at H; exact H
     clear H
     have H := H1
     clear H1
     exact absurd ((Option.some.inj H).trans hR_) (by decide)
    ·replace c88 := Bool.eq_false_iff.mpr c88
     subst c88
     have H1 : (if (aP.toList == aB.toList && (aQ.toList == aC.toList)) = true then ((graftwoodlaw12_awake.f kj9).bind fun cr => (some cr)) else ((store_Get.f kj9 az aA aP aQ).bind fun bt384 => ((store_Get.f kj9 aV aW aP aQ).bind fun bt386 => ((store_Get.f kj9 a8 bg aP aQ).bind fun bt388 => (if bt384.1.toList = bt386.1.toList then (if bt384.2 = bt386.2 then (if bt384.1.toList = bt388.1.toList then (if bt384.2 = bt388.2 then ((graftwoodlaw12_awake.f kj9).bind fun b6 => (some b6)) else (some false)) else (some false)) else (some false)) else (some false)))))) = some r := by rw [if_neg (show ¬ (false = true) by decide)] at H; exact H
     clear H
     have H := H1
     clear H1
     by_cases c89 : (aP.toList == aB.toList && (aQ.toList == aC.toList)) = true
     ·rw [if_pos c89] at H
      have d6 : (aP.toList == aB.toList && (aQ.toList == aC.toList)) = true := c89
      (try (have d7 : decide (aP.toList = aB.toList && (aQ.toList == aC.toList)) = true := by simpa using c89))
      (try (have d8 : (aP.toList == aB.toList && (aQ.toList == aC.toList)) = true := by simpa using c89))
      clear c89
      replace H := Option.bind_eq_some_iff.mp H
      obtain ⟨cr, d9, H⟩ := H
      replace H : (some cr) = some r := H
      have A90 := Aside0.mk d9
      clear d9
      obtain rfl := Option.some.inj H
      have iL := aq.out
      have iM := an.out
      have iO := ar.out
      have iP := au.out
      have iQ := av.out
      have iR := aw.out
      have iT := bi.out
      have iU := bt.out
      have iV := bD.out
      have iW := bS.out
      have f_ : wc.cell? ⟨ad, 0, none⟩ = some (.string aP) := cT ah 0
      have ga : wc.cell? ⟨ad, 1, none⟩ = some (.string aQ) := cT ah 1
      have gb := blk_frozen ah.out 0
      have gc := blk_frozen ah.out 1
      have iX := ao.out
      have iY := ai.out
      have iZ := ax.out
      have i0 := ay.out
      have i1 := bh.out
      have i2 := bs.out
      have gm := bC.out
      have gn := bR.out
      have d_ : wc.cell? ⟨ac, 0, none⟩ = some (.string aB) := cT ag 0
      have ea : wc.cell? ⟨ac, 1, none⟩ = some (.string aC) := cT ag 1
      have eb := blk_frozen ag.out 0
      have ec := blk_frozen ag.out 1
      go_wp2_with (first | ((with_reducible refine gate_callee (f := 10) rfl ?_); refine gL (some 88) Tryd.func10 #[] ?_; (with_reducible refine (graftwoodlaw12_awake.calls kj9  cr _ A90.out (by first | exact hR_ | assumption)).mono ?_); rintro e jh ⟨rfl, hb⟩; refine ⟨_, rfl, ?_⟩; replace a9 := am (rB a9.out hb); replace a_ := am (rB a_.out hb); replace bb := am (vB bb.out hb); replace bc := am (vB bc.out hb); replace be := am (vB be.out hb); replace bf := am (vB bf.out hb); replace aa := am (bB aa.out hb); replace af := am (bB af.out hb); replace ag := am (bB ag.out hb); replace ah := am (bB ah.out hb); replace aR := am (bB aR.out hb); replace aY := am (bB aY.out hb); replace HB := am (sT HB.out hb); (try clear hb); (try clear hb2); (try clear hk); (try clear hi)))
      go_ret
      exact ⟨by first | rfl | (simp [errW_none, errW_some] <;> rfl) | (simp [*, errW_none, errW_some] <;> rfl), eT HB.out⟩
     ·rw [if_neg c89] at H
      have d6 : (aP.toList == aB.toList && (aQ.toList == aC.toList)) = false := by simpa using c89
      (try (have d7 : decide (aP.toList = aB.toList && (aQ.toList == aC.toList)) = false := by simpa using c89))
      (try (have d8 : (aP.toList == aB.toList && (aQ.toList == aC.toList)) = false := by simpa using c89))
      (try (have i3 : ¬ (aP.toList = aB.toList && (aQ.toList == aC.toList)) := by simpa using c89))
      clear c89
      replace H := Option.bind_eq_some_iff.mp H
      obtain ⟨⟨bP, bQ⟩, dI, H⟩ := H
      replace H : ((store_Get.f kj9 aV aW aP aQ).bind fun bt386 => ((store_Get.f kj9 a8 bg aP aQ).bind fun bt388 => (if bP.toList = bt386.1.toList then (if bQ = bt386.2 then (if bP.toList = bt388.1.toList then (if bQ = bt388.2 then ((graftwoodlaw12_awake.f kj9).bind fun b6 => (some b6)) else (some false)) else (some false)) else (some false)) else (some false)))) = some r := H
      have go := Aside0.mk dI
      clear dI
      replace H := Option.bind_eq_some_iff.mp H
      obtain ⟨⟨cf, cg⟩, dJ, H⟩ := H
      replace H : ((store_Get.f kj9 a8 bg aP aQ).bind fun bt388 => (if bP.toList = cf.toList then (if bQ = cg then (if bP.toList = bt388.1.toList then (if bQ = bt388.2 then ((graftwoodlaw12_awake.f kj9).bind fun b6 => (some b6)) else (some false)) else (some false)) else (some false)) else (some false))) = some r := H
      have gp := Aside0.mk dJ
      clear dJ
      replace H := Option.bind_eq_some_iff.mp H
      obtain ⟨⟨ck, cl⟩, dK, H⟩ := H
      replace H : (if bP.toList = cf.toList then (if bQ = cg then (if bP.toList = ck.toList then (if bQ = cl then ((graftwoodlaw12_awake.f kj9).bind fun b6 => (some b6)) else (some false)) else (some false)) else (some false)) else (some false)) = some r := H
      have gq := Aside0.mk dK
      clear dK
      by_cases cm : bP.toList = cf.toList
      ·rw [if_pos cm] at H
       have dR : (bP.toList == cf.toList) = true := beq_iff_eq.mpr cm
       have dS : (bP.toList != cf.toList) = false := bne_eq_false_iff_eq.mpr cm
       clear cm
       by_cases cn : bQ = cg
       ·rw [if_pos cn] at H
        have dU : (bQ == cg) = true := beq_iff_eq.mpr cn
        have dV : (bQ != cg) = false := bne_eq_false_iff_eq.mpr cn
        clear cn
        by_cases co : bP.toList = ck.toList
        ·rw [if_pos co] at H
         have dW : (bP.toList == ck.toList) = true := beq_iff_eq.mpr co
         have dX : (bP.toList != ck.toList) = false := bne_eq_false_iff_eq.mpr co
         clear co
         by_cases cp : bQ = cl
         ·rw [if_pos cp] at H
          have dY : (bQ == cl) = true := beq_iff_eq.mpr cp
          have dZ : (bQ != cl) = false := bne_eq_false_iff_eq.mpr cp
          clear cp
          replace H := Option.bind_eq_some_iff.mp H
          obtain ⟨b6, dL, H⟩ := H
          replace H : (some b6) = some r := H
          have gr := Aside0.mk dL
          clear dL
          obtain rfl := Option.some.inj H
          have gs := aq.out
          have gt := an.out
          have gu := ar.out
          have gv := au.out
          have gw := av.out
          have gx := aw.out
          have gy := bi.out
          have gz := bt.out
          have gA := bD.out
          have gB := bS.out
          have ed : wc.cell? ⟨ad, 0, none⟩ = some (.string aP) := cT ah 0
          have ee : wc.cell? ⟨ad, 1, none⟩ = some (.string aQ) := cT ah 1
          have ef := blk_frozen ah.out 0
          have eg := blk_frozen ah.out 1
          have gC := ao.out
          have gD := ai.out
          have gE := ax.out
          have gF := ay.out
          have gG := bh.out
          have gH := bs.out
          have gI := bC.out
          have gJ := bR.out
          have eh : wc.cell? ⟨ac, 0, none⟩ = some (.string aB) := cT ag 0
          have ei : wc.cell? ⟨ac, 1, none⟩ = some (.string aC) := cT ag 1
          have ej := blk_frozen ag.out 0
          have ek := blk_frozen ag.out 1
          have gK := ap.out
          have gM := al.out
          have gN := bk.out
          have gO := bz.out
          have gP := bJ.out
          have gQ := b1.out
          have el : wc.cell? ⟨ae, 0, none⟩ = some (.slice bv az.length bw) := cT af 0
          have em : wc.cell? ⟨ae, 1, none⟩ = some (.slice bG aA.length bH) := cT af 1
          have en := blk_frozen af.out 0
          have eo := blk_frozen af.out 1
          go_wp2_with (first | ((with_reducible refine gate_callee (f := 11) rfl ?_); refine gL (some 92) Tryd.func11 #[.agg #[.slice bv az.length bw, .slice bG aA.length bH], .agg #[.string aP, .string aQ]] ?_; (with_reducible refine (store_Get.calls kj9 _ _ az _ _ aA aP aQ bP bQ _ ?side1 ?side2 ?side3 ?side4 go.out).mono ?_); (case side1 => exact cW (Kd.R_reads' a9.out).2.2); (case side2 => exact (Kd.R_reads' a9.out).2.1); (case side3 => exact cW (Kd.R_reads' a_.out).2.2); (case side4 => exact (Kd.R_reads' a_.out).2.1); rintro e dw ⟨rfl, hb⟩; refine ⟨_, rfl, ?_⟩; replace a9 := am (rB a9.out hb); replace a_ := am (rB a_.out hb); replace bb := am (vB bb.out hb); replace bc := am (vB bc.out hb); replace be := am (vB be.out hb); replace bf := am (vB bf.out hb); replace aa := am (bB aa.out hb); replace af := am (bB af.out hb); replace ag := am (bB ag.out hb); replace ah := am (bB ah.out hb); replace aR := am (bB aR.out hb); replace aY := am (bB aY.out hb); replace HB := am (sT HB.out hb); (try clear hb); (try clear hb2); (try clear hk); (try clear hi); have gR := bx.out; have gU := bj.out; have gV := bE.out; have gW := bU.out; have ep : dw.cell? ⟨aU, 0, none⟩ = some (.slice bL aV.length bK) := cT aR 0; have eq : dw.cell? ⟨aU, 1, none⟩ = some (.slice bN aW.length bM) := cT aR 1; have er := blk_frozen aR.out 0; have es := blk_frozen aR.out 1; have et : dw.cell? ⟨ad, 0, none⟩ = some (.string aP) := cT ah 0; have eu : dw.cell? ⟨ad, 1, none⟩ = some (.string aQ) := cT ah 1; have ev := blk_frozen ah.out 0; have ew := blk_frozen ah.out 1) | ((with_reducible refine gate_callee (f := 11) rfl ?_); refine gL (some 98) Tryd.func11 #[.agg #[.slice bL aV.length bK, .slice bN aW.length bM], .agg #[.string aP, .string aQ]] ?_; (with_reducible refine (store_Get.calls kj9 _ _ aV _ _ aW aP aQ cf cg _ ?side1 ?side2 ?side3 ?side4 gp.out).mono ?_); (case side1 => exact cW (Kd.V_reads' bb.out).2.2); (case side2 => exact (Kd.V_reads' bb.out).2.1); (case side3 => exact cW (Kd.V_reads' bc.out).2.2); (case side4 => exact (Kd.V_reads' bc.out).2.1); rintro e dx ⟨rfl, hb⟩; refine ⟨_, rfl, ?_⟩; replace a9 := am (rB a9.out hb); replace a_ := am (rB a_.out hb); replace bb := am (vB bb.out hb); replace bc := am (vB bc.out hb); replace be := am (vB be.out hb); replace bf := am (vB bf.out hb); replace aa := am (bB aa.out hb); replace af := am (bB af.out hb); replace ag := am (bB ag.out hb); replace ah := am (bB ah.out hb); replace aR := am (bB aR.out hb); replace aY := am (bB aY.out hb); replace HB := am (sT HB.out hb); (try clear hb); (try clear hb2); (try clear hk); (try clear hi); have gX := b0.out; have gY := bI.out; have ex : dx.cell? ⟨aX, 0, none⟩ = some (.slice bV a8.length bO) := cT aY 0; have ey : dx.cell? ⟨aX, 1, none⟩ = some (.slice bX bg.length bW) := cT aY 1; have ez := blk_frozen aY.out 0; have eA := blk_frozen aY.out 1; have eB : dx.cell? ⟨ad, 0, none⟩ = some (.string aP) := cT ah 0; have eC : dx.cell? ⟨ad, 1, none⟩ = some (.string aQ) := cT ah 1; have eD := blk_frozen ah.out 0; have eE := blk_frozen ah.out 1) | ((with_reducible refine gate_callee (f := 11) rfl ?_); refine gL (some 104) Tryd.func11 #[.agg #[.slice bV a8.length bO, .slice bX bg.length bW], .agg #[.string aP, .string aQ]] ?_; (with_reducible refine (store_Get.calls kj9 _ _ a8 _ _ bg aP aQ ck cl _ ?side1 ?side2 ?side3 ?side4 gq.out).mono ?_); (case side1 => exact cW (Kd.V_reads' be.out).2.2); (case side2 => exact (Kd.V_reads' be.out).2.1); (case side3 => exact cW (Kd.V_reads' bf.out).2.2); (case side4 => exact (Kd.V_reads' bf.out).2.1); rintro e ji ⟨rfl, hb⟩; refine ⟨_, rfl, ?_⟩; replace a9 := am (rB a9.out hb); replace a_ := am (rB a_.out hb); replace bb := am (vB bb.out hb); replace bc := am (vB bc.out hb); replace be := am (vB be.out hb); replace bf := am (vB bf.out hb); replace aa := am (bB aa.out hb); replace af := am (bB af.out hb); replace ag := am (bB ag.out hb); replace ah := am (bB ah.out hb); replace aR := am (bB aR.out hb); replace aY := am (bB aY.out hb); replace HB := am (sT HB.out hb); (try clear hb); (try clear hb2); (try clear hk); (try clear hi)) | (go_at_call 10; (with_reducible refine (graftwoodlaw12_awake.calls kj9  b6 _ gr.out (by first | exact hR_ | assumption)).mono ?_); rintro e jj ⟨rfl, hb⟩; replace a9 := am (rB a9.out hb); replace a_ := am (rB a_.out hb); replace bb := am (vB bb.out hb); replace bc := am (vB bc.out hb); replace be := am (vB be.out hb); replace bf := am (vB bf.out hb); replace aa := am (bB aa.out hb); replace af := am (bB af.out hb); replace ag := am (bB ag.out hb); replace ah := am (bB ah.out hb); replace aR := am (bB aR.out hb); replace aY := am (bB aY.out hb); replace HB := am (sT HB.out hb); (try clear hb); (try clear hb2); (try clear hk); (try clear hi)))
          go_ret
          exact ⟨by first | rfl | (simp [errW_none, errW_some] <;> rfl) | (simp [*, errW_none, errW_some] <;> rfl), eT HB.out⟩
         ·rw [if_neg cp] at H
          have dY : (bQ == cl) = false := beq_eq_false_iff_ne.mpr cp
          have dZ : (bQ != cl) = true := bne_iff_ne.mpr cp
          exact absurd ((Option.some.inj H).trans hR_) (by decide)
        ·rw [if_neg co] at H
         have dW : (bP.toList == ck.toList) = false := beq_eq_false_iff_ne.mpr co
         have dX : (bP.toList != ck.toList) = true := bne_iff_ne.mpr co
         exact absurd ((Option.some.inj H).trans hR_) (by decide)
       ·rw [if_neg cn] at H
        have dU : (bQ == cg) = false := beq_eq_false_iff_ne.mpr cn
        have dV : (bQ != cg) = true := bne_iff_ne.mpr cn
        exact absurd ((Option.some.inj H).trans hR_) (by decide)
      ·rw [if_neg cm] at H
       have dR : (bP.toList == cf.toList) = false := beq_eq_false_iff_ne.mpr cm
       have dS : (bP.toList != cf.toList) = true := bne_iff_ne.mpr cm
       exact absurd ((Option.some.inj H).trans hR_) (by decide)
 ·skip
  rw [if_neg c6] at H
  have gd : (cd == 0) = false := beq_eq_false_iff_ne.mpr c6
  have ge : (cd != 0) = true := bne_iff_ne.mpr c6
  replace H := Option.bind_eq_some_iff.mp H
  obtain ⟨bZ, dM, H⟩ := H
  replace H : (some bZ) = some r := H
  have gZ := Aside0.mk dM
  clear dM
  obtain rfl := Option.some.inj H
  obtain ⟨bo, bp, dN⟩ := Kd.R_slice aj.out
  (first | subst dN | (injection dN with f1_ f2_ f3_; have f4_ := f1_.symm; have f5_ := f3_.symm; clear f1_ f2_ f3_; subst f4_; subst f5_))
  obtain ⟨bq, br, dP⟩ := Kd.R_slice ak.out
  (first | subst dP | (injection dP with f1_ f2_ f3_; have f4_ := f1_.symm; have f5_ := f3_.symm; clear f1_ f2_ f3_; subst f4_; subst f5_))
  refine rN ?_
  refine oT 14 (bA 18 32767) HT_.out fun K hK => ?_
  have i4 : w19.cell? ⟨ae, 0, none⟩ = some (.slice none 0 0) := cT af 0
  have g2 := blk_frozen af.out 0
  have eF := al.out
  have eG := ax.out
  have eH := ar.out
  have eI := ap.out
  have eJ := ay.out
  have eK := au.out
  have i5 : w19.cell? ⟨ae, 1, none⟩ = some (.slice none 0 0) := cT af 1
  have g3 := blk_frozen af.out 1
  have eL := al.out
  have eM := ax.out
  have eN := ar.out
  have eO := ap.out
  have eP := ay.out
  have eQ := au.out
  refine skip_ (w1 := ?_) (by rfl) rfl ?_ ?_
  rotate_left
  ·go_simp
   rfl
  refine hK.out _ _ ⟨((cell_far (p := ⟨ae, _, none⟩) al.out _).trans (((cell_far (p := ⟨ae, _, none⟩) al.out _).trans (hHeld.1)))), ((cell_far (p := ⟨ae, _, none⟩) al.out _).trans (((cell_far (p := ⟨ae, _, none⟩) al.out _).trans (hHeld.2.1)))), ((cell_far (p := ⟨ae, _, none⟩) al.out _).trans (((cell_far (p := ⟨ae, _, none⟩) al.out _).trans (hHeld.2.2.1)))), ((cell_far (p := ⟨ae, _, none⟩) al.out _).trans (((cell_far (p := ⟨ae, _, none⟩) al.out _).trans (hHeld.2.2.2.1)))), ((cell_far (p := ⟨ae, _, none⟩) al.out _).trans (((cell_far (p := ⟨ae, _, none⟩) al.out _).trans (hHeld.2.2.2.2.1)))), ((cell_far (p := ⟨ae, _, none⟩) al.out _).trans (((cell_far (p := ⟨ae, _, none⟩) al.out _).trans (hHeld.2.2.2.2.2.1)))), ((cell_far (p := ⟨ae, _, none⟩) al.out _).trans (((cell_far (p := ⟨ae, _, none⟩) al.out _).trans (hHeld.2.2.2.2.2.2))))⟩ (fun hHeld => ?_)
  clear hK K
  refine oT 15 (bA 18 65535) HT_.out fun K hK => ?_
  have i6 : w19.cell? ⟨ac, 0, none⟩ = some (.string (⟨#[]⟩ : ByteArray)) := cT ag 0
  have g4 := blk_frozen ag.out 0
  have eR := ai.out
  have eS := ay.out
  have eV := av.out
  have eW := ao.out
  have eX := ax.out
  have eY := aw.out
  have i7 : w19.cell? ⟨ac, 1, none⟩ = some (.string (⟨#[]⟩ : ByteArray)) := cT ag 1
  have g5 := blk_frozen ag.out 1
  have eZ := ai.out
  have e0 := ay.out
  have e1 := av.out
  have e2 := ao.out
  have e3 := ax.out
  have e4 := aw.out
  refine skip_ (w1 := ?_) (by rfl) rfl ?_ ?_
  rotate_left
  ·go_simp
   rfl
  refine hK.out _ _ ⟨((cell_far (p := ⟨ac, _, none⟩) ai.out _).trans (((cell_far (p := ⟨ac, _, none⟩) ai.out _).trans (hHeld.1)))), ((cell_far (p := ⟨ac, _, none⟩) ai.out _).trans (((cell_far (p := ⟨ac, _, none⟩) ai.out _).trans (hHeld.2.1)))), ((cell_far (p := ⟨ac, _, none⟩) ai.out _).trans (((cell_far (p := ⟨ac, _, none⟩) ai.out _).trans (hHeld.2.2.1)))), ((cell_far (p := ⟨ac, _, none⟩) ai.out _).trans (((cell_far (p := ⟨ac, _, none⟩) ai.out _).trans (hHeld.2.2.2.1)))), ((cell_far (p := ⟨ac, _, none⟩) ai.out _).trans (((cell_far (p := ⟨ac, _, none⟩) ai.out _).trans (hHeld.2.2.2.2.1)))), ((cell_far (p := ⟨ac, _, none⟩) ai.out _).trans (((cell_far (p := ⟨ac, _, none⟩) ai.out _).trans (hHeld.2.2.2.2.2.1)))), ((cell_far (p := ⟨ac, _, none⟩) ai.out _).trans (((cell_far (p := ⟨ac, _, none⟩) ai.out _).trans (hHeld.2.2.2.2.2.2))))⟩ (fun hHeld => ?_)
  clear hK K
  refine oT 16 (bA 18 131071) HT_.out fun K hK => ?_
  have i8 : w19.cell? ⟨ad, 0, none⟩ = some (.string (⟨#[]⟩ : ByteArray)) := cT ah 0
  have g6 := blk_frozen ah.out 0
  have e5 := an.out
  have e6 := au.out
  have e7 := aw.out
  have e8 := aq.out
  have e9 := ar.out
  have e_ := av.out
  have i9 : w19.cell? ⟨ad, 1, none⟩ = some (.string (⟨#[]⟩ : ByteArray)) := cT ah 1
  have g7 := blk_frozen ah.out 1
  have fa := an.out
  have fb := au.out
  have fc := aw.out
  have fd := aq.out
  have fe := ar.out
  have ff := av.out
  refine skip_ (w1 := ?_) (by rfl) rfl ?_ ?_
  rotate_left
  ·go_simp
   rfl
  refine hK.out _ _ ⟨((cell_far (p := ⟨ad, _, none⟩) an.out _).trans (((cell_far (p := ⟨ad, _, none⟩) an.out _).trans (hHeld.1)))), ((cell_far (p := ⟨ad, _, none⟩) an.out _).trans (((cell_far (p := ⟨ad, _, none⟩) an.out _).trans (hHeld.2.1)))), ((cell_far (p := ⟨ad, _, none⟩) an.out _).trans (((cell_far (p := ⟨ad, _, none⟩) an.out _).trans (hHeld.2.2.1)))), ((cell_far (p := ⟨ad, _, none⟩) an.out _).trans (((cell_far (p := ⟨ad, _, none⟩) an.out _).trans (hHeld.2.2.2.1)))), ((cell_far (p := ⟨ad, _, none⟩) an.out _).trans (((cell_far (p := ⟨ad, _, none⟩) an.out _).trans (hHeld.2.2.2.2.1)))), ((cell_far (p := ⟨ad, _, none⟩) an.out _).trans (((cell_far (p := ⟨ad, _, none⟩) an.out _).trans (hHeld.2.2.2.2.2.1)))), ((cell_far (p := ⟨ad, _, none⟩) an.out _).trans (((cell_far (p := ⟨ad, _, none⟩) an.out _).trans (hHeld.2.2.2.2.2.2))))⟩ (fun hHeld => ?_)
  clear hK K
  refine pT 17 6 (bA 18 262143) HT_.out ?_
  refine done_ (done_of HT_.out (by kernel_rfl)) ?_
  have n0_ : Aside0 (Kd.R k27 27 ((((((w19.setCell ⟨ae, 0, none⟩ (.slice bo az.length bp)).setCell ⟨ae, 1, none⟩ (.slice bq aA.length br)).setCell ⟨ac, 0, none⟩ (.string aB)).setCell ⟨ac, 1, none⟩ (.string aC)).setCell ⟨ad, 0, none⟩ (.string aP)).setCell ⟨ad, 1, none⟩ (.string aQ)) w.heap.size (fun k_ => k_ ≠ ac ∧ k_ ≠ ad) (.slice bo az.length bp) az) := ⟨by (with_reducible repeat (first | apply Kd.R_alloc | apply Kd.R_drewN | apply Kd.R_drew)); exact Kd.R_mono (Kd.R_far (p := ⟨ad, 1, none⟩) (Kd.R_far (p := ⟨ad, 0, none⟩) (Kd.R_far (p := ⟨ac, 1, none⟩) (Kd.R_far (p := ⟨ac, 0, none⟩) (Kd.R_far (p := ⟨ae, 1, none⟩) (Kd.R_far (p := ⟨ae, 0, none⟩) (Kd.R_mono (Kd.R_mono (Kd.R_types aj.out af.out (by decide)) (fun k_ hk => (⟨hk, hk.1.1⟩ : _ ∧ k_ ≠ ac))) (fun k_ hk => (⟨hk, hk.1.1.2⟩ : _ ∧ k_ ≠ ad))) (fun _ hk => hk.1.1.2) (.slice bo az.length bp)) (fun _ hk => hk.1.1.2) (.slice bq aA.length br)) (fun _ hk => hk.1.2) (.string aB)) (fun _ hk => hk.1.2) (.string aC)) (fun _ hk => hk.2) (.string aP)) (fun _ hk => hk.2) (.string aQ)) (fun _ hk => ⟨hk.1.1.1.1, hk.1.1.1.2⟩)⟩
  have n1_ : Aside0 (Kd.R Kd.string 9 ((((((w19.setCell ⟨ae, 0, none⟩ (.slice bo az.length bp)).setCell ⟨ae, 1, none⟩ (.slice bq aA.length br)).setCell ⟨ac, 0, none⟩ (.string aB)).setCell ⟨ac, 1, none⟩ (.string aC)).setCell ⟨ad, 0, none⟩ (.string aP)).setCell ⟨ad, 1, none⟩ (.string aQ)) w.heap.size (fun _ => True) (.slice bq aA.length br) aA) := ⟨by (with_reducible repeat (first | apply Kd.R_alloc | apply Kd.R_drewN | apply Kd.R_drew)); exact Kd.R_mono (Kd.R_far (p := ⟨ad, 1, none⟩) (Kd.R_far (p := ⟨ad, 0, none⟩) (Kd.R_far (p := ⟨ac, 1, none⟩) (Kd.R_far (p := ⟨ac, 0, none⟩) (Kd.R_far (p := ⟨ae, 1, none⟩) (Kd.R_far (p := ⟨ae, 0, none⟩) (Kd.R_types (Kd.R_types (Kd.R_types ak.out af.out (by decide)) ag.out (by decide)) ah.out (by decide)) (fun _ hk => hk.1.1.2) (.slice bo az.length bp)) (fun _ hk => hk.1.1.2) (.slice bq aA.length br)) (fun _ hk => hk.1.2) (.string aB)) (fun _ hk => hk.1.2) (.string aC)) (fun _ hk => hk.2) (.string aP)) (fun _ hk => hk.2) (.string aQ)) (fun _ hk => trivial)⟩
  have n2_ : Aside0 (((((((w19.setCell ⟨ae, 0, none⟩ (.slice bo az.length bp)).setCell ⟨ae, 1, none⟩ (.slice bq aA.length br)).setCell ⟨ac, 0, none⟩ (.string aB)).setCell ⟨ac, 1, none⟩ (.string aC)).setCell ⟨ad, 0, none⟩ (.string aP)).setCell ⟨ad, 1, none⟩ (.string aQ)).heap[ab]? = some (.cells #[.slice aD l0_0.length aE, .slice aF l0_1.length aG, .string a0_2, .string a0_3, .string a0_4, .string a0_5, .string a0_6] 29 (0, 0))) := ⟨by (with_reducible repeat (first | apply bn | apply bd | apply ba)); refine blk_far ?_ an.out _; (with_reducible repeat (first | apply bn | apply bd | apply ba)); refine blk_far ?_ an.out _; (with_reducible repeat (first | apply bn | apply bd | apply ba)); refine blk_far ?_ ai.out _; (with_reducible repeat (first | apply bn | apply bd | apply ba)); refine blk_far ?_ ai.out _; (with_reducible repeat (first | apply bn | apply bd | apply ba)); refine blk_far ?_ al.out _; (with_reducible repeat (first | apply bn | apply bd | apply ba)); refine blk_far ?_ al.out _; exact bT aa.out⟩
  have n3_ : Aside0 (((((((w19.setCell ⟨ae, 0, none⟩ (.slice bo az.length bp)).setCell ⟨ae, 1, none⟩ (.slice bq aA.length br)).setCell ⟨ac, 0, none⟩ (.string aB)).setCell ⟨ac, 1, none⟩ (.string aC)).setCell ⟨ad, 0, none⟩ (.string aP)).setCell ⟨ad, 1, none⟩ (.string aQ)).heap[ae]? = some (.cells #[.slice bo az.length bp, .slice bq aA.length br] 25 (0, 0))) := ⟨by (with_reducible repeat (first | apply bn | apply bd | apply ba)); refine blk_far ?_ au.out _; (with_reducible repeat (first | apply bn | apply bd | apply ba)); refine blk_far ?_ au.out _; (with_reducible repeat (first | apply bn | apply bd | apply ba)); refine blk_far ?_ ay.out _; (with_reducible repeat (first | apply bn | apply bd | apply ba)); refine blk_far ?_ ay.out _; (with_reducible repeat (first | apply bn | apply bd | apply ba)); refine blk_put (cs := #[.slice bo az.length bp, .slice none 0 0]) ?_ 1 _ rfl; (with_reducible repeat (first | apply bn | apply bd | apply ba)); refine blk_put (cs := #[.slice none 0 0, .slice none 0 0]) ?_ 0 _ rfl; exact bT af.out⟩
  have n4_ : Aside0 (((((((w19.setCell ⟨ae, 0, none⟩ (.slice bo az.length bp)).setCell ⟨ae, 1, none⟩ (.slice bq aA.length br)).setCell ⟨ac, 0, none⟩ (.string aB)).setCell ⟨ac, 1, none⟩ (.string aC)).setCell ⟨ad, 0, none⟩ (.string aP)).setCell ⟨ad, 1, none⟩ (.string aQ)).heap[ac]? = some (.cells #[.string aB, .string aC] 27 (0, 0))) := ⟨by (with_reducible repeat (first | apply bn | apply bd | apply ba)); refine blk_far ?_ aw.out _; (with_reducible repeat (first | apply bn | apply bd | apply ba)); refine blk_far ?_ aw.out _; (with_reducible repeat (first | apply bn | apply bd | apply ba)); refine blk_put (cs := #[.string aB, .string (⟨#[]⟩ : ByteArray)]) ?_ 1 _ rfl; (with_reducible repeat (first | apply bn | apply bd | apply ba)); refine blk_put (cs := #[.string (⟨#[]⟩ : ByteArray), .string (⟨#[]⟩ : ByteArray)]) ?_ 0 _ rfl; (with_reducible repeat (first | apply bn | apply bd | apply ba)); refine blk_far ?_ ax.out _; (with_reducible repeat (first | apply bn | apply bd | apply ba)); refine blk_far ?_ ax.out _; exact bT ag.out⟩
  have n5_ : Aside0 (((((((w19.setCell ⟨ae, 0, none⟩ (.slice bo az.length bp)).setCell ⟨ae, 1, none⟩ (.slice bq aA.length br)).setCell ⟨ac, 0, none⟩ (.string aB)).setCell ⟨ac, 1, none⟩ (.string aC)).setCell ⟨ad, 0, none⟩ (.string aP)).setCell ⟨ad, 1, none⟩ (.string aQ)).heap[ad]? = some (.cells #[.string aP, .string aQ] 27 (0, 0))) := ⟨by (with_reducible repeat (first | apply bn | apply bd | apply ba)); refine blk_put (cs := #[.string aP, .string (⟨#[]⟩ : ByteArray)]) ?_ 1 _ rfl; (with_reducible repeat (first | apply bn | apply bd | apply ba)); refine blk_put (cs := #[.string (⟨#[]⟩ : ByteArray), .string (⟨#[]⟩ : ByteArray)]) ?_ 0 _ rfl; (with_reducible repeat (first | apply bn | apply bd | apply ba)); refine blk_far ?_ av.out _; (with_reducible repeat (first | apply bn | apply bd | apply ba)); refine blk_far ?_ av.out _; (with_reducible repeat (first | apply bn | apply bd | apply ba)); refine blk_far ?_ ar.out _; (with_reducible repeat (first | apply bn | apply bd | apply ba)); refine blk_far ?_ ar.out _; exact bT ah.out⟩
  have n6_ : Aside0 (Below w.heap.size w ((((((w19.setCell ⟨ae, 0, none⟩ (.slice bo az.length bp)).setCell ⟨ae, 1, none⟩ (.slice bq aA.length br)).setCell ⟨ac, 0, none⟩ (.string aB)).setCell ⟨ac, 1, none⟩ (.string aC)).setCell ⟨ad, 0, none⟩ (.string aP)).setCell ⟨ad, 1, none⟩ (.string aQ))) := ⟨by repeat (first | (with_reducible first | exact HB.out | apply pA | apply pN | apply pD | refine eU ?_ (by assumption)) | exact HB.out)⟩
  (try clear aj)
  (try clear ak)
  (try clear aa)
  (try clear af)
  (try clear ag)
  (try clear ah)
  (try clear HB)
  generalize ((((((w19.setCell ⟨ae, 0, none⟩ (.slice bo az.length bp)).setCell ⟨ae, 1, none⟩ (.slice bq aA.length br)).setCell ⟨ac, 0, none⟩ (.string aB)).setCell ⟨ac, 1, none⟩ (.string aC)).setCell ⟨ad, 0, none⟩ (.string aP)).setCell ⟨ad, 1, none⟩ (.string aQ)) = dy at n0_ n1_ n2_ n3_ n4_ n5_ n6_ ⊢
  have aj := n0_
  have ak := n1_
  have aa := n2_
  have af := n3_
  have ag := n4_
  have ah := n5_
  have HB := n6_
  clear n0_ n1_ n2_ n3_ n4_ n5_ n6_
  have g8 := ap.out
  have g9 := al.out
  have g_ := ay.out
  have ha := ax.out
  have hc := au.out
  have he := ar.out
  have fg : dy.cell? ⟨ae, 0, none⟩ = some (.slice bo az.length bp) := cT af 0
  have fh : dy.cell? ⟨ae, 1, none⟩ = some (.slice bq aA.length br) := cT af 1
  have fi := blk_frozen af.out 0
  have fj := blk_frozen af.out 1
  have hf := ao.out
  have hh := ai.out
  have hj := aw.out
  have hl := av.out
  have fk : dy.cell? ⟨ac, 0, none⟩ = some (.string aB) := cT ag 0
  have fl : dy.cell? ⟨ac, 1, none⟩ = some (.string aC) := cT ag 1
  have fm := blk_frozen ag.out 0
  have fn := blk_frozen ag.out 1
  try go_wp2_with (first | ((with_reducible refine gate_callee (f := 9) rfl ?_); refine gL (some 36) Tryd.func9 #[.agg #[.slice bo az.length bp, .slice bq aA.length br], .agg #[.string aB, .string aC], .string a0_6] ?_; (with_reducible refine (store_Put.calls k (fun k_ => some k_ = (.slice bo az.length bp : Value).ownBlock) _ _ az (fun k_ => some k_ = (.slice bq aA.length br : Value).ownBlock) _ _ aA aB aC a0_6 aV aW cd _ ?side1 ?side2 A5.out).mono ?_); (case side1 => exact Kd.R_V (Kd.R_tight rfl (Kd.R_types (Kd.R_types (Kd.R_apart' (aj.out) (Kd.R_typed ak.out) (by decide)) aa.out (by decide)) af.out (by decide)))); (case side2 => exact Kd.R_V (Kd.R_tight rfl (Kd.R_types (Kd.R_types (Kd.R_types (Kd.R_types (Kd.R_apart' (ak.out) (Kd.R_typed aj.out) (by decide)) aa.out (by decide)) af.out (by decide)) ag.out (by decide)) ah.out (by decide)))); rintro e jk ⟨gg, gh, rfl, ho0, ho1, hb⟩; refine ⟨_, rfl, ?_⟩; have aZ := am (Kd.V_lower (Kd.V_mono (ok' := fun k_ => k_ ≠ ab ∧ k_ ≠ ae ∧ k_ ≠ ac ∧ k_ ≠ ad) ho0 (fun k_ hk_ => ⟨Or.elim hk_ (fun hs_ => Or.elim hs_ (fun hs_ => ((Kd.R_types (Kd.R_types (Kd.R_apart' (aj.out) (Kd.R_typed ak.out) (by decide)) aa.out (by decide)) af.out (by decide)).1 k_ hs_.symm).1.2) (fun hs_ => ((Kd.R_types (Kd.R_types (Kd.R_types (Kd.R_types (Kd.R_apart' (ak.out) (Kd.R_typed aj.out) (by decide)) aa.out (by decide)) af.out (by decide)) ag.out (by decide)) ah.out (by decide)).1 k_ hs_.symm).1.1.1.2)) (fun hn_ => (Kd.freshB (g := ab) (o := .cells #[.slice aD l0_0.length aE, .slice aF l0_1.length aG, .string a0_2, .string a0_3, .string a0_4, .string a0_5, .string a0_6] 29 (0, 0)) (bT aa.out) k_ hn_)), Or.elim hk_ (fun hs_ => Or.elim hs_ (fun hs_ => ((Kd.R_types (Kd.R_types (Kd.R_apart' (aj.out) (Kd.R_typed ak.out) (by decide)) aa.out (by decide)) af.out (by decide)).1 k_ hs_.symm).2) (fun hs_ => ((Kd.R_types (Kd.R_types (Kd.R_types (Kd.R_types (Kd.R_apart' (ak.out) (Kd.R_typed aj.out) (by decide)) aa.out (by decide)) af.out (by decide)) ag.out (by decide)) ah.out (by decide)).1 k_ hs_.symm).1.1.2)) (fun hn_ => (Kd.freshB (g := ae) (o := .cells #[.slice bo az.length bp, .slice bq aA.length br] 25 (0, 0)) (bT af.out) k_ hn_)), Or.elim hk_ (fun hs_ => Or.elim hs_ (fun hs_ => ((Kd.R_types (Kd.R_types (Kd.R_apart' (aj.out) (Kd.R_typed ak.out) (by decide)) aa.out (by decide)) af.out (by decide)).1 k_ hs_.symm).1.1.1.1) (fun hs_ => ((Kd.R_types (Kd.R_types (Kd.R_types (Kd.R_types (Kd.R_apart' (ak.out) (Kd.R_typed aj.out) (by decide)) aa.out (by decide)) af.out (by decide)) ag.out (by decide)) ah.out (by decide)).1 k_ hs_.symm).1.2)) (fun hn_ => (Kd.freshB (g := ac) (o := .cells #[.string aB, .string aC] 27 (0, 0)) (bT ag.out) k_ hn_)), Or.elim hk_ (fun hs_ => Or.elim hs_ (fun hs_ => ((Kd.R_types (Kd.R_types (Kd.R_apart' (aj.out) (Kd.R_typed ak.out) (by decide)) aa.out (by decide)) af.out (by decide)).1 k_ hs_.symm).1.1.1.2) (fun hs_ => ((Kd.R_types (Kd.R_types (Kd.R_types (Kd.R_types (Kd.R_apart' (ak.out) (Kd.R_typed aj.out) (by decide)) aa.out (by decide)) af.out (by decide)) ag.out (by decide)) ah.out (by decide)).1 k_ hs_.symm).2)) (fun hn_ => (Kd.freshB (g := ad) (o := .cells #[.string aP, .string aQ] 27 (0, 0)) (bT ah.out) k_ hn_))⟩)) (below_size (by repeat (first | (with_reducible first | exact HB.out | apply pA | apply pN | apply pD | refine eU ?_ (by assumption)) | exact HB.out)))); have a7 := am (Kd.V_lower (Kd.V_mono (ok' := fun k_ => k_ ≠ ab ∧ k_ ≠ ae ∧ k_ ≠ ac ∧ k_ ≠ ad) ho1 (fun k_ hk_ => ⟨Or.elim hk_ (fun hs_ => Or.elim hs_ (fun hs_ => ((Kd.R_types (Kd.R_types (Kd.R_apart' (aj.out) (Kd.R_typed ak.out) (by decide)) aa.out (by decide)) af.out (by decide)).1 k_ hs_.symm).1.2) (fun hs_ => ((Kd.R_types (Kd.R_types (Kd.R_types (Kd.R_types (Kd.R_apart' (ak.out) (Kd.R_typed aj.out) (by decide)) aa.out (by decide)) af.out (by decide)) ag.out (by decide)) ah.out (by decide)).1 k_ hs_.symm).1.1.1.2)) (fun hn_ => (Kd.freshB (g := ab) (o := .cells #[.slice aD l0_0.length aE, .slice aF l0_1.length aG, .string a0_2, .string a0_3, .string a0_4, .string a0_5, .string a0_6] 29 (0, 0)) (bT aa.out) k_ hn_)), Or.elim hk_ (fun hs_ => Or.elim hs_ (fun hs_ => ((Kd.R_types (Kd.R_types (Kd.R_apart' (aj.out) (Kd.R_typed ak.out) (by decide)) aa.out (by decide)) af.out (by decide)).1 k_ hs_.symm).2) (fun hs_ => ((Kd.R_types (Kd.R_types (Kd.R_types (Kd.R_types (Kd.R_apart' (ak.out) (Kd.R_typed aj.out) (by decide)) aa.out (by decide)) af.out (by decide)) ag.out (by decide)) ah.out (by decide)).1 k_ hs_.symm).1.1.2)) (fun hn_ => (Kd.freshB (g := ae) (o := .cells #[.slice bo az.length bp, .slice bq aA.length br] 25 (0, 0)) (bT af.out) k_ hn_)), Or.elim hk_ (fun hs_ => Or.elim hs_ (fun hs_ => ((Kd.R_types (Kd.R_types (Kd.R_apart' (aj.out) (Kd.R_typed ak.out) (by decide)) aa.out (by decide)) af.out (by decide)).1 k_ hs_.symm).1.1.1.1) (fun hs_ => ((Kd.R_types (Kd.R_types (Kd.R_types (Kd.R_types (Kd.R_apart' (ak.out) (Kd.R_typed aj.out) (by decide)) aa.out (by decide)) af.out (by decide)) ag.out (by decide)) ah.out (by decide)).1 k_ hs_.symm).1.2)) (fun hn_ => (Kd.freshB (g := ac) (o := .cells #[.string aB, .string aC] 27 (0, 0)) (bT ag.out) k_ hn_)), Or.elim hk_ (fun hs_ => Or.elim hs_ (fun hs_ => ((Kd.R_types (Kd.R_types (Kd.R_apart' (aj.out) (Kd.R_typed ak.out) (by decide)) aa.out (by decide)) af.out (by decide)).1 k_ hs_.symm).1.1.1.2) (fun hs_ => ((Kd.R_types (Kd.R_types (Kd.R_types (Kd.R_types (Kd.R_apart' (ak.out) (Kd.R_typed aj.out) (by decide)) aa.out (by decide)) af.out (by decide)) ag.out (by decide)) ah.out (by decide)).1 k_ hs_.symm).2)) (fun hn_ => (Kd.freshB (g := ad) (o := .cells #[.string aP, .string aQ] 27 (0, 0)) (bT ah.out) k_ hn_))⟩)) (below_size (by repeat (first | (with_reducible first | exact HB.out | apply pA | apply pN | apply pD | refine eU ?_ (by assumption)) | exact HB.out)))); replace aj := am (rB aj.out hb); replace ak := am (rB ak.out hb); replace aa := am (bB aa.out hb); replace af := am (bB af.out hb); replace ag := am (bB ag.out hb); replace ah := am (bB ah.out hb); replace HB := am (below_step (by repeat (first | (with_reducible first | exact HB.out | apply pA | apply pN | apply pD | refine eU ?_ (by assumption)) | exact HB.out)) hb); (try clear hb); (try clear hb2); (try clear hk); (try clear hi); (try clear ho0); (try clear ho1)) | ((with_reducible refine gate_dst (N := 7) rfl ?_); refine box_event ?hg (N := 7) ?hd (cs := #[.slice none 0 0, .slice none 0 0]) (t := 25) ?hr ?_; (case hd => rfl); (case hg => rfl); (case hr => first | (go_simp; done) | (go_simp; rfl)); intro aU hg fo hbox hb; replace aj := am (rB aj.out hb); replace ak := am (rB ak.out hb); replace aZ := am (Kd.V_below (Kd.V_elderB (vT aZ.out) aU (Nat.le_of_eq hg.symm)) hb); replace a7 := am (Kd.V_below (Kd.V_elderB (vT a7.out) aU (Nat.le_of_eq hg.symm)) hb); have aR := am (hbox); have d2 := am ((by rw [hg]; exact (below_size (by repeat (first | (with_reducible first | exact HB.out | apply pA | apply pN | apply pD | refine eU ?_ (by assumption)) | exact HB.out))) : w.heap.size ≤ aU)); have d3 := am ((by rw [hg]; exact (below_size (by repeat (first | (with_reducible first | exact HB.out | apply pA | apply pN | apply pD | refine eU ?_ (by assumption)) | exact HB.out))) : w.heap.size ≤ aU)); have bj := am ((nT aa.out hg)); have bx := am ((mT aa.out hg)); have bk := am ((nT af.out hg)); have bz := am ((mT af.out hg)); have bh := am ((nT ag.out hg)); have bs := am ((mT ag.out hg)); have bi := am ((nT ah.out hg)); have bt := am ((mT ah.out hg)); replace aa := am (bB aa.out hb); replace af := am (bB af.out hb); replace ag := am (bB ag.out hb); replace ah := am (bB ah.out hb); replace HB := am (below_step (by repeat (first | (with_reducible first | exact HB.out | apply pA | apply pN | apply pD | refine eU ?_ (by assumption)) | exact HB.out)) hb); clear hb hbox hg; obtain ⟨b_, ca, fp⟩ := Kd.V_slice aZ.out; subst fp; have hm := bx.out; have hn := bj.out; have ho := bz.out; have hq := bk.out; have hs := bs.out; have ht := bh.out; have hu := bt.out; have hv := bi.out; have fq : fo.cell? ⟨aU, 0, none⟩ = some (.slice none 0 0) := cT aR 0; have fr : fo.cell? ⟨aU, 1, none⟩ = some (.slice none 0 0) := cT aR 1; have fs := blk_frozen aR.out 0; have ft := blk_frozen aR.out 1; obtain ⟨ch, ci, fu⟩ := Kd.V_slice a7.out; subst fu) | ((with_reducible refine gate_callee (f := 10) rfl ?_); refine gL (some 41) Tryd.func10 #[] ?_; (with_reducible refine (graftwoodlaw12_awake.calls k  bZ _ gZ.out (by first | exact hR_ | assumption)).mono ?_); rintro e jl ⟨rfl, hb⟩; refine ⟨_, rfl, ?_⟩; replace aj := am (Kd.R_below (by (with_reducible repeat (first | apply Kd.R_alloc | apply Kd.R_drewN | apply Kd.R_drew)); exact (Kd.R_mono (Kd.R_far (p := ⟨aU, 1, none⟩) (Kd.R_far (p := ⟨aU, 0, none⟩) (Kd.R_types aj.out aR.out (by decide)) (fun _ hk => hk.2) (.slice b_ aV.length ca)) (fun _ hk => hk.2) (.slice ch aW.length ci)) (fun _ h_ => h_.1))) hb); replace ak := am (Kd.R_below (by (with_reducible repeat (first | apply Kd.R_alloc | apply Kd.R_drewN | apply Kd.R_drew)); exact (Kd.R_mono (Kd.R_far (p := ⟨aU, 1, none⟩) (Kd.R_far (p := ⟨aU, 0, none⟩) (Kd.R_types ak.out aR.out (by decide)) (fun _ hk => hk.2) (.slice b_ aV.length ca)) (fun _ hk => hk.2) (.slice ch aW.length ci)) (fun _ h_ => h_.1))) hb); replace aZ := am (Kd.V_below (by (with_reducible repeat (first | apply Kd.V_alloc | apply Kd.V_drewN | apply Kd.V_drew)); exact (Kd.V_mono (Kd.V_far (p := ⟨aU, 1, none⟩) (Kd.V_far (p := ⟨aU, 0, none⟩) (Kd.V_mono aZ.out (fun k_ hk => (⟨hk, hk.2⟩ : _ ∧ k_ ≠ aU))) (fun _ hk => hk.2) (.slice b_ aV.length ca)) (fun _ hk => hk.2) (.slice ch aW.length ci)) (fun _ h_ => h_.1))) hb); replace a7 := am (Kd.V_below (by (with_reducible repeat (first | apply Kd.V_alloc | apply Kd.V_drewN | apply Kd.V_drew)); exact (Kd.V_mono (Kd.V_far (p := ⟨aU, 1, none⟩) (Kd.V_far (p := ⟨aU, 0, none⟩) (Kd.V_mono a7.out (fun k_ hk => (⟨hk, hk.2⟩ : _ ∧ k_ ≠ aU))) (fun _ hk => hk.2) (.slice b_ aV.length ca)) (fun _ hk => hk.2) (.slice ch aW.length ci)) (fun _ h_ => h_.1))) hb); replace aa := am (blk_below (g := ab) (o := .cells #[.slice aD l0_0.length aE, .slice aF l0_1.length aG, .string a0_2, .string a0_3, .string a0_4, .string a0_5, .string a0_6] 29 (0, 0)) (by (with_reducible repeat (first | apply bn | apply bd | apply ba)); refine blk_far ?_ bj.out _; (with_reducible repeat (first | apply bn | apply bd | apply ba)); refine blk_far ?_ bj.out _; exact bT aa.out) hb); replace af := am (blk_below (g := ae) (o := .cells #[.slice bo az.length bp, .slice bq aA.length br] 25 (0, 0)) (by (with_reducible repeat (first | apply bn | apply bd | apply ba)); refine blk_far ?_ bk.out _; (with_reducible repeat (first | apply bn | apply bd | apply ba)); refine blk_far ?_ bk.out _; exact bT af.out) hb); replace ag := am (blk_below (g := ac) (o := .cells #[.string aB, .string aC] 27 (0, 0)) (by (with_reducible repeat (first | apply bn | apply bd | apply ba)); refine blk_far ?_ bh.out _; (with_reducible repeat (first | apply bn | apply bd | apply ba)); refine blk_far ?_ bh.out _; exact bT ag.out) hb); replace ah := am (blk_below (g := ad) (o := .cells #[.string aP, .string aQ] 27 (0, 0)) (by (with_reducible repeat (first | apply bn | apply bd | apply ba)); refine blk_far ?_ bi.out _; (with_reducible repeat (first | apply bn | apply bd | apply ba)); refine blk_far ?_ bi.out _; exact bT ah.out) hb); replace HB := am (below_step (by repeat (first | (with_reducible first | exact HB.out | apply pA | apply pN | apply pD | refine eU ?_ (by assumption)) | exact HB.out)) hb); replace aR := am (blk_below (g := aU) (o := .cells #[.slice b_ aV.length ca, .slice ch aW.length ci] 25 (0, 0)) (by (with_reducible repeat (first | apply bn | apply bd | apply ba)); refine blk_put (cs := #[.slice b_ aV.length ca, .slice none 0 0]) ?_ 1 _ rfl; (with_reducible repeat (first | apply bn | apply bd | apply ba)); refine blk_put (cs := #[.slice none 0 0, .slice none 0 0]) ?_ 0 _ rfl; exact bT aR.out) hb); (try clear hb); (try clear hb2); (try clear hk); (try clear hi)))
  go_ret
  exact ⟨by first | rfl | (simp [errW_none, errW_some] <;> rfl) | (simp [*, errW_none, errW_some] <;> rfl), eT HB.out⟩

end Go.Proofs.YtomjppafgalaoaaDoor.P
