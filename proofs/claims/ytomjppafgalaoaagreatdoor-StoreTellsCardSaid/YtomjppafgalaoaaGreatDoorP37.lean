-- half the indentation
import Derived.Test.YtomjppafgalaoaaGreatDoorSqz
import Derived.Test.YtomjppafgalaoaaGreatDoorP0
import Derived.Test.YtomjppafgalaoaaGreatDoorP1
namespace Go.Proofs.YtomjppafgalaoaaGreatDoor.P
open Go.RowKit Go.Proofs.YtomjppafgalaoaaGreatDoorW.PrintWords Go.Proofs.YtomjppafgalaoaaGreatDoorW.PrintLast Go.Proofs.YtomjppafgalaoaaGreatDoorW.PrintMore
attribute [local go_sem] max2_int min2_int max_two min_two max_three min_three max_four min_four
set_option linter.unusedVariables false
set_option linter.unusedSimpArgs false
set_option maxHeartbeats 8000000
set_option maxRecDepth 100000

attribute [local go_sem high] eqA27
/-! ### graftwoodref12_Place: function 16 -/
def graftwoodref12_Place.l0 : Nat → Int → List (S27) → List ByteArray → ByteArray → ByteArray → Option (Int)
 | 0, _, _, _, _, _ => none
 | k + 1, x5, a7, bs, bi, bj => if x5 < (a7.length : Int) then (if 0 ≤ x5 then (if ((((rd_T27 a7 x5).f0).toList) == bi.toList && ((((rd_T27 a7 x5).f1).toList) == bj.toList)) = true then (some x5) else (graftwoodref12_Place.l0 k (wrap64 (x5 + 1)) a7 bs bi bj)) else (none)) else (some (-1))
def graftwoodref12_Place.f (k : Nat) (l0_0 : List (S27)) (l0_1 : List ByteArray) (a1_0 : ByteArray) (a1_1 : ByteArray) : Option (Int) := graftwoodref12_Place.l0 k 0 l0_0 l0_1 a1_0 a1_1
theorem graftwoodref12_Place.mono_l : ∀ k, (∀ y0 y1 y2 y3 y4, LeO (graftwoodref12_Place.l0 k y0 y1 y2 y3 y4) (graftwoodref12_Place.l0 (k + 1) y0 y1 y2 y3 y4))
 | 0 => fun _ _ _ _ _ r h => by simp [graftwoodref12_Place.l0] at h
 | k + 1 => by
  have ih0 := graftwoodref12_Place.mono_l k
  ·intro y0 y1 y2 y3 y4
   unfold graftwoodref12_Place.l0
   repeat' first | (with_reducible first | apply ih0 | apply LeO.refl | apply LeO.none | apply LeO.ite | refine LeO.bind ?_ (fun _ => ?_)) | apply ih0 | exact LeO.none _ | refine LeO.ite ?_ ?_ | refine LeO.bind ?_ (fun _ => ?_)
theorem graftwoodref12_Place.mono : ∀ a0 a1 a2 a3 k, LeO (graftwoodref12_Place.f k a0 a1 a2 a3) (graftwoodref12_Place.f (k + 1) a0 a1 a2 a3) := by
 intro a0 a1 a2 a3 k
 have ih0 := graftwoodref12_Place.mono_l k
 unfold graftwoodref12_Place.f
 repeat' first | (with_reducible first | apply ih0 | apply LeO.refl | apply LeO.none | apply LeO.ite | refine LeO.bind ?_ (fun _ => ?_)) | apply ih0 | exact LeO.none _ | refine LeO.ite ?_ ?_ | refine LeO.bind ?_ (fun _ => ?_)
theorem graftwoodref12_Place.calls (k : Nat) (aJ : Option Addr) (av : Nat) (l0_0 : List (S27)) (ay : Option Addr) (aw : Nat) (l0_1 : List ByteArray) (a1_0 : ByteArray) (a1_1 : ByteArray) (r : Int) (w : World) (hr0_0 : Kd.C k27 w aJ l0_0.length l0_0) (hc0_0 : l0_0.length ≤ av) (hr0_1 : Kd.C Kd.string w ay l0_1.length l0_1) (hc0_1 : l0_1.length ≤ aw) (h : graftwoodref12_Place.f k l0_0 l0_1 a1_0 a1_1 = some r) :
  Calls Tryz.prog 16 #[.agg #[.slice aJ l0_0.length av, .slice ay l0_1.length aw], .agg #[.string a1_0, .string a1_1]] w fun e w' => e = .returned (.int .i64 r) ∧ Below w.heap.size w w' := by
 have hu25 := Tryz.underlying25
 have hu27 := Tryz.underlying27
 have bc := Aside0.mk hr0_0
 have bI := Aside0.mk hc0_0
 clear hr0_0 hc0_0
 have bv := Aside0.mk hr0_1
 have bJ := Aside0.mk hc0_1
 clear hr0_1 hc0_1
 have HB := am (Below.refl w.heap.size w)
 unfold graftwoodref12_Place.f at h; have H := h; clear h
 have H' := Aside0.mk H
 clear H
 go_enter Tryz.func16, Tryz.ntmps16
 go_wp2_with (first | ((with_reducible refine gtD 2 ?_); refine xBx 2 25 #[.slice aJ l0_0.length av, .slice ay l0_1.length aw] ?_; intro aV hg w3 hbox hb; have ai := am (hbox); have bw := am ((gTx hg HB.out)); have bx := am ((gTx hg HB.out)); replace HB := am (sTx HB.out hb); clear hb hbox hg) | ((with_reducible refine gtD 3 ?_); refine xBx 3 27 #[.string a1_0, .string a1_1] ?_; intro bb hg w4 hbox hb; have az := am (hbox); have bz := am ((gTx hg HB.out)); have bC := am ((gTx hg HB.out)); have aA := am ((nT ai.out hg)); have aC := am ((mT ai.out hg)); replace ai := am (bB ai.out hb); replace HB := am (sTx HB.out hb); clear hb hbox hg))
 repeat (go_quiet (first | ((with_reducible refine gtD 2 ?_); refine xBx 2 25 #[.slice aJ l0_0.length av, .slice ay l0_1.length aw] ?_; intro aV hg w3 hbox hb; have ai := am (hbox); have bw := am ((gTx hg HB.out)); have bx := am ((gTx hg HB.out)); replace HB := am (sTx HB.out hb); clear hb hbox hg) | ((with_reducible refine gtD 3 ?_); refine xBx 3 27 #[.string a1_0, .string a1_1] ?_; intro bb hg w4 hbox hb; have az := am (hbox); have bz := am ((gTx hg HB.out)); have bC := am ((gTx hg HB.out)); have aA := am ((nT ai.out hg)); have aC := am ((mT ai.out hg)); replace ai := am (bB ai.out hb); replace HB := am (sTx HB.out hb); clear hb hbox hg)); try go_wp2_with (first | ((with_reducible refine gtD 2 ?_); refine xBx 2 25 #[.slice aJ l0_0.length av, .slice ay l0_1.length aw] ?_; intro aV hg w3 hbox hb; have ai := am (hbox); have bw := am ((gTx hg HB.out)); have bx := am ((gTx hg HB.out)); replace HB := am (sTx HB.out hb); clear hb hbox hg) | ((with_reducible refine gtD 3 ?_); refine xBx 3 27 #[.string a1_0, .string a1_1] ?_; intro bb hg w4 hbox hb; have az := am (hbox); have bz := am ((gTx hg HB.out)); have bC := am ((gTx hg HB.out)); have aA := am ((nT ai.out hg)); have aC := am ((mT ai.out hg)); replace ai := am (bB ai.out hb); replace HB := am (sTx HB.out hb); clear hb hbox hg)))
 go_loopg [5] k (fun kq v5 w' => ∃ (an : Int), v5 = .int .i64 an ∧ Aside0 (graftwoodref12_Place.l0 kq an l0_0 l0_1 a1_0 a1_1 = some r) ∧ Aside0 (kq ≤ k) ∧ Aside0 (w'.heap[aV]? = some (.cells #[(.slice aJ l0_0.length av), (.slice ay l0_1.length aw)] 25 (0, 0))) ∧ Aside0 (w'.heap[bb]? = some (.cells #[.string a1_0, .string a1_1] 27 (0, 0))) ∧ Aside0 (Below w.heap.size w w'))
 case atStart => exact ⟨(0), rfG, H', ⟨Nat.le_refl _⟩, ⟨bT ai.out⟩, ⟨bT az.out⟩, ⟨eTx HB.out⟩⟩
 case round =>
  clear H'
  obtain ⟨an, rfl, HA, HK1, ai, az, HB⟩ := hrel
  cases gk with
  | zero => exact absurd HA.out (by simp [graftwoodref12_Place.l0])
  | succ k1 =>
   have H := HA.out
   clear HA
   simp only [graftwoodref12_Place.l0] at H
   replace H := ifP H; rcases H with ⟨c5, H⟩ | ⟨c5, H⟩
   ·have cy := decide_eq_true c5
    clear c5
    replace H := ifN H; obtain ⟨c6, H⟩ := H
    have dx := decide_eq_true c6
    clear c6
    replace H := ifP H; rcases H with ⟨c7, H⟩ | ⟨c7, H⟩
    ·have cz := c7
     (try (have cA : decide ((((rd_T27 l0_0 an).f0).toList) = a1_0.toList && ((((rd_T27 l0_0 an).f1).toList) == a1_1.toList)) = true := by simpa using c7))
     (try (have cB : ((((rd_T27 l0_0 an).f0).toList) == a1_0.toList && ((((rd_T27 l0_0 an).f1).toList) == a1_1.toList)) = true := by simpa using c7))
     clear c7
     obtain rfl := smI H
     have cC := aA.out
     have cD := aC.out
     obtain ⟨cE, cF, cG, cH⟩ := bxB ai
     have p481 : 0 ≤ (an : Int) := of_decide_eq_true rfA
     have q481 : an < (l0_0.length : Int) := of_decide_eq_true rfA
     obtain ⟨ad481, e481, aE, aG⟩ := at_T27 bc.out an p481 q481
     cases e481
     replace aE := (HB.out.cell (World.block_lt_of_cell? w _ aE)).trans aE
     replace aG := (HB.out.cell (World.block_lt_of_cell? w _ aG)).trans aG
     replace p481 := eq_true p481
     replace q481 := eq_true q481
     obtain ⟨bk, bl, bm, bo⟩ := bxB az
     go_wp2
     repeat (go_quiet (fail); try go_wp2)
     go_ret
     exact ⟨rfF, eTx HB.out⟩
    ·have cz := Bool.eq_false_iff.mpr c7
     (try (have cA : decide ((((rd_T27 l0_0 an).f0).toList) = a1_0.toList && ((((rd_T27 l0_0 an).f1).toList) == a1_1.toList)) = false := by simpa using c7))
     (try (have cB : ((((rd_T27 l0_0 an).f0).toList) == a1_0.toList && ((((rd_T27 l0_0 an).f1).toList) == a1_1.toList)) = false := by simpa using c7))
     (try (have dy : ¬ ((((rd_T27 l0_0 an).f0).toList) = a1_0.toList && ((((rd_T27 l0_0 an).f1).toList) == a1_1.toList)) := by simpa using c7))
     clear c7
     have H' := Aside0.mk H
     clear H
     have cK := aA.out
     have cL := aC.out
     obtain ⟨bO, bP, bQ, bR⟩ := bxB ai
     have p481 : 0 ≤ (an : Int) := of_decide_eq_true rfA
     have q481 : an < (l0_0.length : Int) := of_decide_eq_true rfA
     obtain ⟨ad481, e481, aE, aG⟩ := at_T27 bc.out an p481 q481
     cases e481
     replace aE := (HB.out.cell (World.block_lt_of_cell? w _ aE)).trans aE
     replace aG := (HB.out.cell (World.block_lt_of_cell? w _ aG)).trans aG
     replace p481 := eq_true p481
     replace q481 := eq_true q481
     obtain ⟨bS, bU, bV, bW⟩ := bxB az
     go_wp2
     repeat (go_quiet (fail); try go_wp2)
     go_roundg k1
     case measure => have := HK1.out; omega
     case rel => exact ⟨(wrap64 (an + 1)), rfG, H', ⟨by have := HK1.out; omega⟩, ⟨bT ai.out⟩, ⟨bT az.out⟩, ⟨eTx HB.out⟩⟩
   ·have cy := decide_eq_false c5
    clear c5
    obtain rfl := smI H
    have cM := aA.out
    have cN := aC.out
    obtain ⟨bX, bZ, b0, b1⟩ := bxB ai
    go_wp2
    repeat (go_quiet (fail); try go_wp2)
    go_ret
    exact ⟨rfF, eTx HB.out⟩

/-! ### graftwoodref12_Drop: function 17 -/
def graftwoodref12_Drop.l0 : Nat → Int → List (S27) → List ByteArray → ByteArray → ByteArray → List (S27) → List ByteArray → Option ((List (S27)) × List ByteArray)
 | 0, _, _, _, _, _, _, _ => none
 | k + 1, x6, aH, a8, be, bf, a9, a_ => if x6 < (aH.length : Int) then (if 0 ≤ x6 then (if (!((((rd_T27 aH x6).f0).toList) == be.toList) || (!((((rd_T27 aH x6).f1).toList) == bf.toList))) = true then (if a9.length < 4398046511104 then (if x6 < (a8.length : Int) then (if a_.length < 8796093022208 then (graftwoodref12_Drop.l0 k (wrap64 (x6 + 1)) aH a8 be bf (a9 ++ [(⟨(rd_T27 aH x6).f0, (rd_T27 aH x6).f1⟩ : S27)]) (a_ ++ [rdOf ByteArray.empty a8 x6])) else (none)) else (none)) else (none)) else (graftwoodref12_Drop.l0 k (wrap64 (x6 + 1)) aH a8 be bf a9 a_)) else (none)) else (some (a9, a_))
def graftwoodref12_Drop.f (k : Nat) (l0_0 : List (S27)) (l0_1 : List ByteArray) (a1_0 : ByteArray) (a1_1 : ByteArray) : Option ((List (S27)) × List ByteArray) := graftwoodref12_Drop.l0 k 0 l0_0 l0_1 a1_0 a1_1 ([] : List (S27)) ([] : List ByteArray)
theorem graftwoodref12_Drop.mono_l : ∀ k, (∀ y0 y1 y2 y3 y4 y5 y6, LeO (graftwoodref12_Drop.l0 k y0 y1 y2 y3 y4 y5 y6) (graftwoodref12_Drop.l0 (k + 1) y0 y1 y2 y3 y4 y5 y6))
 | 0 => fun _ _ _ _ _ _ _ r h => by simp [graftwoodref12_Drop.l0] at h
 | k + 1 => by
  have ih0 := graftwoodref12_Drop.mono_l k
  ·intro y0 y1 y2 y3 y4 y5 y6
   unfold graftwoodref12_Drop.l0
   repeat' first | (with_reducible first | apply ih0 | apply LeO.refl | apply LeO.none | apply LeO.ite | refine LeO.bind ?_ (fun _ => ?_)) | apply ih0 | exact LeO.none _ | refine LeO.ite ?_ ?_ | refine LeO.bind ?_ (fun _ => ?_)
theorem graftwoodref12_Drop.mono : ∀ a0 a1 a2 a3 k, LeO (graftwoodref12_Drop.f k a0 a1 a2 a3) (graftwoodref12_Drop.f (k + 1) a0 a1 a2 a3) := by
 intro a0 a1 a2 a3 k
 have ih0 := graftwoodref12_Drop.mono_l k
 unfold graftwoodref12_Drop.f
 repeat' first | (with_reducible first | apply ih0 | apply LeO.refl | apply LeO.none | apply LeO.ite | refine LeO.bind ?_ (fun _ => ?_)) | apply ih0 | exact LeO.none _ | refine LeO.ite ?_ ?_ | refine LeO.bind ?_ (fun _ => ?_)
def graftwoodref12_Drop.T6 : Bool × List (List Nat × List Nat) := (true, [([], []), ([0], [0]), ([], []), ([2], [2]), ([], []), ([3, 4], [3, 4]), ([5], [5]), ([6], [6]), ([1, 7], [1, 7]), ([0, 1, 2, 3, 4, 5, 6, 7, 8], []), ([9, 8, 8, 0, 1, 2, 3, 4, 5, 6, 7, 8], [8, 9])])
def graftwoodref12_Drop.B6 : List Nat := [0, 1, 0, 4, 0, 28, 60, 124, 255, 511, 1023]
theorem graftwoodref12_Drop.tab6 : rtab .any (opsOf Tryz.f17 6) = graftwoodref12_Drop.T6 := by kernel_rfl
theorem graftwoodref12_Drop.bits6 : waitsOk graftwoodref12_Drop.T6.2 graftwoodref12_Drop.B6 = true := by kernel_rfl
def graftwoodref12_Drop.T7 : Bool × List (List Nat × List Nat) := (true, [([], []), ([0], [0]), ([], []), ([2], [2]), ([], []), ([3, 4], [3, 4]), ([5], [5]), ([6], [6]), ([1, 7], [1, 7]), ([0, 1, 2, 3, 4, 5, 6, 7, 8], []), ([9, 8, 8, 0, 1, 2, 3, 4, 5, 6, 7, 8], [8, 9])])
def graftwoodref12_Drop.B7 : List Nat := [0, 1, 0, 4, 0, 28, 60, 124, 255, 511, 1023]
theorem graftwoodref12_Drop.tab7 : rtab .any (opsOf Tryz.f17 7) = graftwoodref12_Drop.T7 := by kernel_rfl
theorem graftwoodref12_Drop.bits7 : waitsOk graftwoodref12_Drop.T7.2 graftwoodref12_Drop.B7 = true := by kernel_rfl
theorem graftwoodref12_Drop.calls (k : Nat) (aJ : Option Addr) (av : Nat) (l0_0 : List (S27)) (ay : Option Addr) (aw : Nat) (l0_1 : List ByteArray) (a1_0 : ByteArray) (a1_1 : ByteArray) (r1 : List (S27)) (r2 : List ByteArray) (w : World) (hr0_0 : Kd.C k27 w aJ l0_0.length l0_0) (hc0_0 : l0_0.length ≤ av) (hr0_1 : Kd.C Kd.string w ay l0_1.length l0_1) (hc0_1 : l0_1.length ≤ aw) (h : graftwoodref12_Drop.f k l0_0 l0_1 a1_0 a1_1 = some (r1, r2)) :
  Calls Tryz.prog 17 #[.agg #[.slice aJ l0_0.length av, .slice ay l0_1.length aw], .agg #[.string a1_0, .string a1_1]] w fun e w' => ∃ v0_ v1_ : Value, e = .returned (.agg #[v0_, v1_]) ∧ Kd.R k27 27 w' w.heap.size (fun _ => True) v0_ r1 ∧ Kd.R Kd.string 9 w' w.heap.size (fun _ => True) v1_ r2 ∧ Below w.heap.size w w' := by
 have hu25 := Tryz.underlying25
 have hu27 := Tryz.underlying27
 have bc := Aside0.mk hr0_0
 have bI := Aside0.mk hc0_0
 clear hr0_0 hc0_0
 have bv := Aside0.mk hr0_1
 have bJ := Aside0.mk hc0_1
 clear hr0_1 hc0_1
 have HB := am (Below.refl w.heap.size w)
 unfold graftwoodref12_Drop.f at h; have H := h; clear h
 have H' := Aside0.mk H
 clear H
 go_enter Tryz.func17, Tryz.ntmps17
 go_wp2_with (first | ((with_reducible refine gtD 2 ?_); refine xBx 2 25 #[.slice aJ l0_0.length av, .slice ay l0_1.length aw] ?_; intro au hg w3 hbox hb; have aa := am (hbox); have cO := am ((gTx hg HB.out)); have cP := am ((gTx hg HB.out)); replace HB := am (sTx HB.out hb); clear hb hbox hg) | ((with_reducible refine gtD 3 ?_); refine xBx 3 27 #[.string a1_0, .string a1_1] ?_; intro aI hg w4 hbox hb; have af := am (hbox); have cQ := am ((gTx hg HB.out)); have cR := am ((gTx hg HB.out)); have aZ := am ((nT aa.out hg)); have a4 := am ((mT aa.out hg)); replace aa := am (bB aa.out hb); replace HB := am (sTx HB.out hb); clear hb hbox hg) | ((with_reducible refine gtD 4 ?_); refine xBx 4 25 #[.slice none 0 0, .slice none 0 0] ?_; intro aK hg w5 hbox hb; have ag := am (hbox); have cS := am ((gTx hg HB.out)); have cU := am ((gTx hg HB.out)); have a5 := am ((nT aa.out hg)); have a6 := am ((mT aa.out hg)); have bp := am ((nT af.out hg)); have bq := am ((mT af.out hg)); replace aa := am (bB aa.out hb); replace af := am (bB af.out hb); replace HB := am (sTx HB.out hb); clear hb hbox hg) | ((with_reducible refine gtD 5 ?_); refine xBx 5 25 #[.slice none 0 0, .slice none 0 0] ?_; intro ak hg w6 hbox hb; have ac := am (hbox); have cV := am ((gTx hg HB.out)); have cX := am ((gTx hg HB.out)); have al := am ((nT aa.out hg)); have ax := am ((mT aa.out hg)); have ao := am ((nT af.out hg)); have aM := am ((mT af.out hg)); have ap := am ((nT ag.out hg)); have aN := am ((mT ag.out hg)); replace aa := am (bB aa.out hb); replace af := am (bB af.out hb); replace ag := am (bB ag.out hb); replace HB := am (sTx HB.out hb); clear hb hbox hg; have dz := ax.out; have dA := al.out; have cC := aM.out; have cD := ao.out; have dB := aN.out; have dC := ap.out; obtain ⟨bk, bl, bm, bo⟩ := bxB ac))
 go_loopg [6] k (fun kq v6 w' => ∃ (ae : Int) (aj : List (S27)) (ah : List ByteArray) (u486000 : Value) (u486001 : Value), v6 = .int .i64 ae ∧ Aside0 (graftwoodref12_Drop.l0 kq ae l0_0 l0_1 a1_0 a1_1 aj ah = some (r1, r2)) ∧ Aside0 (kq ≤ k) ∧ Aside0 (Kd.R k27 27 w' w.heap.size (fun k_ => k_ ≠ aI) u486000 aj) ∧ Aside0 (Kd.R Kd.string 9 w' w.heap.size (fun _ => True) u486001 ah) ∧ Aside0 (w'.heap[au]? = some (.cells #[(.slice aJ l0_0.length av), (.slice ay l0_1.length aw)] 25 (0, 0))) ∧ Aside0 (w'.heap[aI]? = some (.cells #[.string a1_0, .string a1_1] 27 (0, 0))) ∧ Aside0 (w'.heap[aK]? = some (.cells #[(.slice none 0 0), (.slice none 0 0)] 25 (0, 0))) ∧ Aside0 (w'.heap[ak]? = some (.cells #[u486000, u486001] 25 (0, 0))) ∧ Aside0 (Below w.heap.size w w'))
 case atStart => exact ⟨(0), (([] : List (S27))), (([] : List ByteArray)), (.slice none 0 0), (.slice none 0 0), rfG, H', ⟨Nat.le_refl _⟩, ⟨rfM⟩, ⟨rfM⟩, ⟨kBk⟩, ⟨kBk⟩, ⟨kBk⟩, ⟨kBk⟩, ⟨eTx HB.out⟩⟩
 case round =>
  clear H'
  obtain ⟨ae, aj, ah, u486000, u486001, rfl, HA, HK1, ad, ab, aa, af, ag, ac, HB⟩ := hrel
  cases gk with
  | zero => exact absurd HA.out (by simp [graftwoodref12_Drop.l0])
  | succ k1 =>
   have H := HA.out
   clear HA
   simp only [graftwoodref12_Drop.l0] at H
   replace H := ifP H; rcases H with ⟨c11, H⟩ | ⟨c11, H⟩
   ·have bK := decide_eq_true c11
    clear c11
    replace H := ifN H; obtain ⟨c12, H⟩ := H
    have cY := decide_eq_true c12
    clear c12
    replace H := ifP H; rcases H with ⟨c13, H⟩ | ⟨c13, H⟩
    ·have bL := c13
     clear c13
     replace H := ifN H; obtain ⟨c14, H⟩ := H
     have LMc14 := Aside0.mk c14
     clear c14
     obtain ⟨aD, bg⟩ : ∃ y_ : List (S27), y_ = (aj ++ [(⟨(rd_T27 l0_0 ae).f0, (rd_T27 l0_0 ae).f1⟩ : S27)]) := ⟨_, rfl⟩
     replace H : (if ae < (l0_1.length : Int) then (if ah.length < 8796093022208 then (graftwoodref12_Drop.l0 k1 (wrap64 (ae + 1)) l0_0 l0_1 a1_0 a1_1 aD (ah ++ [rdOf ByteArray.empty l0_1 ae])) else (none)) else (none)) = some (r1, r2) := by first | (rw [bg]; with_reducible exact H) | (have H2_ := (Option.bind_some _ _).symm.trans H; rw [bg]; with_reducible exact H2_) | (have H2_ := (Option.bind_some _ _).symm.trans H; with_reducible exact H2_) | with_reducible exact H | (rw [bg]; exact H) | exact H
     have Ny488 := Aside0.mk bg
     clear bg
     replace H := ifN H; obtain ⟨c15, H⟩ := H
     have cZ := decide_eq_true c15
     clear c15
     replace H := ifN H; obtain ⟨c16, H⟩ := H
     have LMc16 := Aside0.mk c16
     clear c16
     obtain ⟨br, bh⟩ : ∃ y_ : List ByteArray, y_ = (ah ++ [rdOf ByteArray.empty l0_1 ae]) := ⟨_, rfl⟩
     replace H : (graftwoodref12_Drop.l0 k1 (wrap64 (ae + 1)) l0_0 l0_1 a1_0 a1_1 aD br) = some (r1, r2) := by first | (rw [bh]; with_reducible exact H) | (have H2_ := (Option.bind_some _ _).symm.trans H; rw [bh]; with_reducible exact H2_) | (have H2_ := (Option.bind_some _ _).symm.trans H; with_reducible exact H2_) | with_reducible exact H | (rw [bh]; exact H) | exact H
     have Ny492 := Aside0.mk bh
     clear bh
     have H' := Aside0.mk H
     clear H
     have c0 := aZ.out
     have c2 := a4.out
     have c3 := a5.out
     have c4 := a6.out
     have c_ := al.out
     have da := ax.out
     obtain ⟨b2, b3, b4, b5⟩ := bxB aa
     try go_wp2
     replace ad := am (Kd.R_drew ad.out)
     replace ab := am (Kd.R_drew ab.out)
     replace aa := am (blk_drew aa.out)
     replace af := am (blk_drew af.out)
     replace ag := am (blk_drew ag.out)
     replace ac := am (blk_drew ac.out)
     replace HB := am (below_drew1 HB.out)
     have p486 : 0 ≤ (ae : Int) := of_decide_eq_true rfA
     have q486 : ae < (l0_0.length : Int) := of_decide_eq_true rfA
     obtain ⟨ad486, e486, aq, ar⟩ := at_T27 bc.out ae p486 q486
     have hw486_1 := ar
     have hw486_0 := aq
     cases e486
     replace aq := (HB.out.cell (World.block_lt_of_cell? w _ aq)).trans aq
     replace ar := (HB.out.cell (World.block_lt_of_cell? w _ ar)).trans ar
     replace p486 := eq_true p486
     replace q486 := eq_true q486
     refine start_ (n := 7) (S := fun w' => w'.cell? ⟨au, 0, none⟩ = some (.slice (some ad486) l0_0.length av) ∧ w'.cell? ⟨au, 1, none⟩ = some (.slice ay l0_1.length aw) ∧ w'.cell? ⟨aI, 0, none⟩ = some (.string a1_0) ∧ w'.cell? ⟨aI, 1, none⟩ = some (.string a1_1) ∧ w'.cell? (ad486.add ((ae).toNat * 2)) = some (.string ((rd_T27 l0_0 ae).f0)) ∧ w'.cell? ⟨(ad486.add ((ae).toNat * 2)).block, (ad486.add ((ae).toNat * 2)).off + 1, none⟩ = some (.string ((rd_T27 l0_0 ae).f1))) (ds := []) (bA 7 0) rfK rfl rfK ⟨cT aa 0, cT aa 1, cT af 0, cT af 1, ((HB.out.cell (World.block_lt_of_cell? w _ hw486_0)).trans hw486_0), ((HB.out.cell (World.block_lt_of_cell? w _ hw486_1)).trans hw486_1)⟩ (fun hHeld => ?_)
     generalize wr.drew = w21 at ad ab aa af ag ac HB aq ar hHeld ⊢
     refine pure_ (i := 0) (N := some 15) (v := ?_) (a' := ?_) (bA 7 1) rfl rfl rfK (fun _ _ _ h => h) (Or.inl ⟨by rfl, ?_⟩) ?_ ?_
     rotate_left
     ·intro w'
      go_simp
      with_reducible rfl
     rotate_left
     ·simp only [pS]
      rfl
     refine pure_ (i := 2) (N := some 17) (v := ?_) (a' := ?_) (bA 7 5) rfl rfl rfK (fun _ _ _ h => h) (Or.inl ⟨by rfl, ?_⟩) ?_ ?_
     rotate_left
     ·intro w'
      go_simp
      with_reducible rfl
     rotate_left
     ·simp only [pS]
      rfl
     refine take_ (i := 1) (N := some 16) (v := ?_) (a' := ?_) (bA 7 7) rfl rfl rfK (fun _ _ _ h => h) (Or.inl ⟨by rfl, ?_⟩) hHeld ?_ ?_
     rotate_left
     ·rintro w' ⟨s0, s1, s2, s3, s4, s5⟩
      go_simp
      with_reducible rfl
     rotate_left
     ·simp only [pS]
      rfl
     refine pure_ (i := 3) (N := some 18) (v := ?_) (a' := ?_) (bA 7 15) rfl rfl rfK (fun _ _ _ h => h) (Or.inl ⟨by rfl, ?_⟩) ?_ ?_
     rotate_left
     ·intro w'
      go_simp
      with_reducible rfl
     rotate_left
     ·simp only [pS]
      rfl
     refine take_ (i := 4) (N := some 19) (v := ?_) (a' := ?_) (bA 7 31) rfl rfl rfK (fun _ _ _ h => h) (Or.inl ⟨by rfl, ?_⟩) hHeld ?_ ?_
     rotate_left
     ·rintro w' ⟨s0, s1, s2, s3, s4, s5⟩
      go_simp
      with_reducible rfl
     rotate_left
     ·simp only [pS]
      rfl
     refine take_ (i := 5) (N := some 20) (v := ?_) (a' := ?_) (bA 7 63) rfl rfl rfK (fun _ _ _ h => h) (Or.inl ⟨by rfl, ?_⟩) hHeld ?_ ?_
     rotate_left
     ·rintro w' ⟨s0, s1, s2, s3, s4, s5⟩
      go_simp
      with_reducible rfl
     rotate_left
     ·simp only [pS]
      rfl
     refine pure_ (i := 6) (N := some 21) (v := ?_) (a' := ?_) (bA 7 127) rfl rfl rfK (fun _ _ _ h => h) (Or.inl ⟨by rfl, ?_⟩) ?_ ?_
     rotate_left
     ·intro w'
      go_simp
      with_reducible rfl
     rotate_left
     ·simp only [pS]
      rfl
     refine done_ rfK ?_
     try go_wp2
     replace ad := am (Kd.R_drew ad.out)
     replace ab := am (Kd.R_drew ab.out)
     replace aa := am (blk_drew aa.out)
     replace af := am (blk_drew af.out)
     replace ag := am (blk_drew ag.out)
     replace ac := am (blk_drew ac.out)
     replace HB := am (below_drew1 HB.out)
     have p487 : 0 ≤ (ae : Int) := of_decide_eq_true rfA
     have q487 : ae < (l0_0.length : Int) := of_decide_eq_true rfA
     obtain ⟨ad487, e487, aW, aX⟩ := at_T27 bc.out ae p487 q487
     have hw487_1 := aX
     have hw487_0 := aW
     obtain rfl : ad486 = ad487 := (by injection e487)
     replace aW := (HB.out.cell (World.block_lt_of_cell? w _ aW)).trans aW
     replace aX := (HB.out.cell (World.block_lt_of_cell? w _ aX)).trans aX
     replace p487 := eq_true p487
     replace q487 := eq_true q487
     refine start_ (n := 11) (S := fun w' => w'.cell? ⟨ak, 0, none⟩ = some (u486000) ∧ w'.cell? ⟨ak, 1, none⟩ = some (u486001) ∧ w'.cell? ⟨au, 0, none⟩ = some (.slice (some ad486) l0_0.length av) ∧ w'.cell? ⟨au, 1, none⟩ = some (.slice ay l0_1.length aw) ∧ w'.cell? (ad486.add ((ae).toNat * 2)) = some (.string ((rd_T27 l0_0 ae).f0)) ∧ w'.cell? ⟨(ad486.add ((ae).toNat * 2)).block, (ad486.add ((ae).toNat * 2)).off + 1, none⟩ = some (.string ((rd_T27 l0_0 ae).f1))) (ds := [10]) (bA 11 0) rfK rfl rfK ⟨cT ac 0, cT ac 1, cT aa 0, cT aa 1, ((HB.out.cell (World.block_lt_of_cell? w _ hw487_0)).trans hw487_0), ((HB.out.cell (World.block_lt_of_cell? w _ hw487_1)).trans hw487_1)⟩ (fun hHeld => ?_); refine with_tabW graftwoodref12_Drop.tab6 graftwoodref12_Drop.bits6 (fun HT_ HW_ => ?_)
     generalize w21.drew = w22 at ad ab aa af ag ac HB aW aX hHeld ⊢
     refine pT 0 22 (bA 11 1) HT_.out ?_
     refine pT 2 24 (bA 11 5) HT_.out ?_
     refine pT 4 26 (bA 11 21) HT_.out ?_
     refine tT 1 23 (bA 11 23) HT_.out HW_.out hHeld ?_ (hy := by rintro w' ⟨s0, s1, s2, s3, s4, s5⟩; go_simp; with_reducible rfl)
     refine tT 3 25 (bA 11 31) HT_.out HW_.out hHeld ?_ (hy := by rintro w' ⟨s0, s1, s2, s3, s4, s5⟩; go_simp; with_reducible rfl)
     refine pT 5 27 (bA 11 63) HT_.out ?_
     refine tT 6 28 (bA 11 127) HT_.out HW_.out hHeld ?_ (hy := by rintro w' ⟨s0, s1, s2, s3, s4, s5⟩; go_simp; with_reducible rfl)
     refine oT 7 (bA 11 255) HT_.out fun K hK => ?_
     refine value_ (w1 := ?_) (v := ?_) (by rfl) rfl ?_ ?_
     rotate_left 2
     ·go_simp
      constructor
      ·rfl
      ·rfl
     refine hK.out _ _ ⟨(blk_cell (blk_alloc ac.out _) 0).trans rfl, (blk_cell (blk_alloc ac.out _) 1).trans rfl, (blk_cell (blk_alloc aa.out _) 0).trans rfl, (blk_cell (blk_alloc aa.out _) 1).trans rfl, (World.cell?_alloc_lt _ _ _ (World.block_lt_of_cell? _ _ (((HB.out.cell (World.block_lt_of_cell? w _ hw487_0)).trans hw487_0)))).trans (((HB.out.cell (World.block_lt_of_cell? w _ hw487_0)).trans hw487_0)), (World.cell?_alloc_lt _ _ _ (World.block_lt_of_cell? _ _ (((HB.out.cell (World.block_lt_of_cell? w _ hw487_1)).trans hw487_1)))).trans (((HB.out.cell (World.block_lt_of_cell? w _ hw487_1)).trans hw487_1))⟩ (fun hHeld => ?_)
     clear hK K
     refine mN 29 ?_
     refine oT 8 (bA 11 511) HT_.out fun K hK => ?_
     refine Kd.R_append_step k27 (w0 := w) w.heap.size (by rfl) (.tmp 23) (.tmp 29) 22 27 (.agg #[(.string ⟨#[]⟩), (.string ⟨#[]⟩)]) 32 rfl Tryz.underlying22 info27 rfl (by decide) (by omega) u486000 aj (⟨(rd_T27 l0_0 ae).f0, (rd_T27 l0_0 ae).f1⟩ : S27) [.string ((rd_T27 l0_0 ae).f0), .string ((rd_T27 l0_0 ae).f1)] (fun k_ => k_ ≠ aI) (fun _ => False) rfl rfl ?aP (fun _ hk => hk.elim) ?aF ?aO ?aB ?aS ?aL ?_
     (case aP => exact k27_mkM _ _ _ (⟨(rd_T27 l0_0 ae).f0, (rd_T27 l0_0 ae).f1⟩ : S27))
     (case aB => exact (eTx HB.out))
     (case aF => exact (fun k_ hk => Kd.freshB (g := aI) (o := .cells #[.string a1_0, .string a1_1] 27 (0, 0)) (bT af.out) k_ hk))
     (case aO => exact (rT ad.out))
     (case aS => exact (below_size (eTx HB.out)))
     (case aL => have := LMc14.out; omega)
     intro dD w23 ho hb hg hat
     rw [← Ny488.out] at ho
     replace ab := am (Kd.R_over' (rT ab.out) (Kd.R_typed (rT ad.out)) (by decide) hg)
     replace aa := am (blk_grown (g := au) (o := .cells #[.slice (some ad486) l0_0.length av, .slice ay l0_1.length aw] 25 (0, 0)) (bT aa.out) hg (Kd.R_ne ad.out aa.out (by decide)))
     replace af := am (blk_grown (g := aI) (o := .cells #[.string a1_0, .string a1_1] 27 (0, 0)) (bT af.out) hg (Kd.R_away ad.out (fun _ hk => hk)))
     replace ag := am (blk_grown (g := aK) (o := .cells #[.slice none 0 0, .slice none 0 0] 25 (0, 0)) (bT ag.out) hg (Kd.R_ne ad.out ag.out (by decide)))
     replace ac := am (blk_grown (g := ak) (o := .cells #[u486000, u486001] 25 (0, 0)) (bT ac.out) hg (Kd.R_ne ad.out ac.out (by decide)))
     replace HB := am (hb)
     have aU := am (ho)
     clear ad ho hb hg hat
     obtain ⟨aQ, aR, bM⟩ := Kd.R_slice aU.out
     (first | subst bM | (injection bM with f1_ f2_ f3_; have f4_ := f1_.symm; have f5_ := f3_.symm; clear f1_ f2_ f3_; subst f4_; subst f5_))
     refine hK.out _ _ ⟨cT ac 0, cT ac 1, cT aa 0, cT aa 1, ((HB.out.cell (World.block_lt_of_cell? w _ hw487_0)).trans hw487_0), ((HB.out.cell (World.block_lt_of_cell? w _ hw487_1)).trans hw487_1)⟩ (fun hHeld => ?_)
     clear hK K
     refine mN 30 ?_
     refine pT 9 31 (bA 11 1023) HT_.out ?_
     refine last_ (i := 10) (N := none) (bA 11 2047) rfl rfl (one_of HT_.out rfK) (by decide) (fun K hK => ?_)
     obtain ⟨dE, db⟩ := bxA ac
     have b6 := al.out
     have b7 := ao.out
     have b8 := ap.out
     have b9 := ax.out
     have b_ := aM.out
     have ca := aN.out
     refine skip_ (w1 := ?_) (by rfl) rfl ?_ ?_
     rotate_left
     ·go_simp
      rfl
     refine hK.out _ _ ?_
     clear hK K
     refine done_ (done_of HT_.out rfK) ?_
     try go_wp2
     obtain ⟨w26, hW_⟩ : ∃ W_, (w23.setCell ⟨ak, 0, none⟩ (.slice aQ aD.length aR)) = W_ := ⟨_, rfl⟩
     have n0_ : Aside0 (Kd.R Kd.string 9 w26 w.heap.size (fun _ => True) u486001 ah) := ⟨by rw [← hW_]; (with_reducible repeat (first | apply Kd.R_alloc | apply Kd.R_drewN | apply Kd.R_drew)); exact Kd.R_mono (Kd.R_far (p := ⟨ak, 0, none⟩) (Kd.R_types ab.out ac.out (by decide)) (fun _ hk => hk.2) (.slice aQ aD.length aR)) (fun _ hk => trivial)⟩
     have n1_ : Aside0 (Kd.R k27 27 w26 w.heap.size (fun k_ => k_ ≠ aI) (.slice aQ aD.length aR) aD) := ⟨by rw [← hW_]; (with_reducible repeat (first | apply Kd.R_alloc | apply Kd.R_drewN | apply Kd.R_drew)); exact Kd.R_mono (Kd.R_far (p := ⟨ak, 0, none⟩) (Kd.R_types aU.out ac.out (by decide)) (fun _ hk => hk.2) (.slice aQ aD.length aR)) (fun _ hk => hk.1)⟩
     have n2_ : Aside0 (w26.heap[au]? = some (.cells #[.slice (some ad486) l0_0.length av, .slice ay l0_1.length aw] 25 (0, 0))) := ⟨by rw [← hW_]; exact kBk⟩
     have n3_ : Aside0 (w26.heap[aI]? = some (.cells #[.string a1_0, .string a1_1] 27 (0, 0))) := ⟨by rw [← hW_]; exact kBk⟩
     have n4_ : Aside0 (w26.heap[aK]? = some (.cells #[.slice none 0 0, .slice none 0 0] 25 (0, 0))) := ⟨by rw [← hW_]; exact kBk⟩
     have n5_ : Aside0 (w26.heap[ak]? = some (.cells #[.slice aQ aD.length aR, u486001] 25 (0, 0))) := ⟨by rw [← hW_]; exact kBk⟩
     have n6_ : Aside0 (Below w.heap.size w w26) := ⟨by rw [← hW_]; exact eTx HB.out⟩
     rw [hW_]
     clear hW_
     have ab := n0_
     have aU := n1_
     have aa := n2_
     have af := n3_
     have ag := n4_
     have ac := n5_
     have HB := n6_
     clear n0_ n1_ n2_ n3_ n4_ n5_ n6_
     replace ab := am (Kd.R_drew ab.out)
     replace aU := am (Kd.R_drew aU.out)
     replace aa := am (blk_drew aa.out)
     replace af := am (blk_drew af.out)
     replace ag := am (blk_drew ag.out)
     replace ac := am (blk_drew ac.out)
     replace HB := am (below_drew1 HB.out)
     have p491 : 0 ≤ (ae : Int) := of_decide_eq_true rfA
     have q491 : ae < (l0_1.length : Int) := of_decide_eq_true rfA
     obtain ⟨ad491, e491, aY⟩ := Kd.at_string bv.out ae p491 q491
     have hw491_0 := aY
     cases e491
     replace aY := (HB.out.cell (World.block_lt_of_cell? w _ aY)).trans aY
     replace p491 := eq_true p491
     replace q491 := eq_true q491
     refine start_ (n := 11) (S := fun w' => w'.cell? ⟨ak, 0, none⟩ = some (.slice aQ aD.length aR) ∧ w'.cell? ⟨ak, 1, none⟩ = some (u486001) ∧ w'.cell? ⟨au, 0, none⟩ = some (.slice (some ad486) l0_0.length av) ∧ w'.cell? ⟨au, 1, none⟩ = some (.slice (some ad491) l0_1.length aw) ∧ w'.cell? (ad491.add (ae).toNat) = some (.string (rdOf ByteArray.empty l0_1 ae))) (ds := [10]) (bA 11 0) rfK rfl rfK ⟨cT ac 0, cT ac 1, cT aa 0, cT aa 1, ((HB.out.cell (World.block_lt_of_cell? w _ hw491_0)).trans hw491_0)⟩ (fun hHeld => ?_); refine with_tabW graftwoodref12_Drop.tab7 graftwoodref12_Drop.bits7 (fun HT_ HW_ => ?_)
     generalize w26.drew = w27 at ab aU aa af ag ac HB aY hHeld ⊢
     refine pT 0 32 (bA 11 1) HT_.out ?_
     refine pT 2 34 (bA 11 5) HT_.out ?_
     refine pT 4 36 (bA 11 21) HT_.out ?_
     refine tT 1 33 (bA 11 23) HT_.out HW_.out hHeld ?_ (hy := by rintro w' ⟨s0, s1, s2, s3, s4⟩; go_simp; with_reducible rfl)
     refine tT 3 35 (bA 11 31) HT_.out HW_.out hHeld ?_ (hy := by rintro w' ⟨s0, s1, s2, s3, s4⟩; go_simp; with_reducible rfl)
     refine pT 5 37 (bA 11 63) HT_.out ?_
     refine tT 6 38 (bA 11 127) HT_.out HW_.out hHeld ?_ (hy := by rintro w' ⟨s0, s1, s2, s3, s4⟩; go_simp; with_reducible rfl)
     refine oT 7 (bA 11 255) HT_.out fun K hK => ?_
     refine value_ (w1 := ?_) (v := ?_) (by rfl) rfl ?_ ?_
     rotate_left 2
     ·go_simp
      constructor
      ·rfl
      ·rfl
     refine hK.out _ _ ⟨(blk_cell (blk_alloc ac.out _) 0).trans rfl, (blk_cell (blk_alloc ac.out _) 1).trans rfl, (blk_cell (blk_alloc aa.out _) 0).trans rfl, (blk_cell (blk_alloc aa.out _) 1).trans rfl, (World.cell?_alloc_lt _ _ _ (World.block_lt_of_cell? _ _ (((HB.out.cell (World.block_lt_of_cell? w _ hw491_0)).trans hw491_0)))).trans (((HB.out.cell (World.block_lt_of_cell? w _ hw491_0)).trans hw491_0))⟩ (fun hHeld => ?_)
     clear hK K
     refine mN 39 ?_
     refine oT 8 (bA 11 511) HT_.out fun K hK => ?_
     refine Kd.R_append_step Kd.string (w0 := w) w.heap.size (by rfl) (.tmp 33) (.tmp 39) 23 9 (.string ⟨#[]⟩) 16 rfl Tryz.underlying23 info9 rfl (by decide) (by omega) u486001 ah (rdOf ByteArray.empty l0_1 ae) [.string (rdOf ByteArray.empty l0_1 ae)] (fun _ => True) (fun _ => False) rfl rfl ?aP (fun _ hk => hk.elim) ?aF ?aO ?aB ?aS ?aL ?_
     (case aP => exact rfl)
     (case aB => exact (eTx HB.out))
     (case aF => exact (fun _ _ => trivial))
     (case aO => exact (rT ab.out))
     (case aS => exact (below_size (eTx HB.out)))
     (case aL => have := LMc16.out; omega)
     intro dF w28 ho hb hg hat
     rw [← Ny492.out] at ho
     replace aa := am (blk_grown (g := au) (o := .cells #[.slice (some ad486) l0_0.length av, .slice (some ad491) l0_1.length aw] 25 (0, 0)) (bT aa.out) hg (Kd.R_ne ab.out aa.out (by decide)))
     replace af := am (blk_grown (g := aI) (o := .cells #[.string a1_0, .string a1_1] 27 (0, 0)) (bT af.out) hg (Kd.R_ne ab.out af.out (by decide)))
     replace ag := am (blk_grown (g := aK) (o := .cells #[.slice none 0 0, .slice none 0 0] 25 (0, 0)) (bT ag.out) hg (Kd.R_ne ab.out ag.out (by decide)))
     replace ac := am (blk_grown (g := ak) (o := .cells #[.slice aQ aD.length aR, u486001] 25 (0, 0)) (bT ac.out) hg (Kd.R_ne ab.out ac.out (by decide)))
     replace aU := am (Kd.R_over' (rT aU.out) (Kd.R_typed (rT ab.out)) (by decide) hg)
     replace HB := am (hb)
     have bD := am (ho)
     clear ab ho hb hg hat
     obtain ⟨bE, bF, bN⟩ := Kd.R_slice bD.out
     (first | subst bN | (injection bN with f1_ f2_ f3_; have f4_ := f1_.symm; have f5_ := f3_.symm; clear f1_ f2_ f3_; subst f4_; subst f5_))
     refine hK.out _ _ ⟨cT ac 0, cT ac 1, cT aa 0, cT aa 1, ((HB.out.cell (World.block_lt_of_cell? w _ hw491_0)).trans hw491_0)⟩ (fun hHeld => ?_)
     clear hK K
     refine mN 40 ?_
     refine pT 9 41 (bA 11 1023) HT_.out ?_
     refine last_ (i := 10) (N := none) (bA 11 2047) rfl rfl (one_of HT_.out rfK) (by decide) (fun K hK => ?_)
     have dG : w28.cell? ⟨ak, 1, none⟩ = some (u486001) := cT ac 1
     have dc := blk_frozen ac.out 1
     have cb := al.out
     have cc := ao.out
     have cd := ap.out
     have ce := ax.out
     have cf := aM.out
     have cg := aN.out
     refine skip_ (w1 := ?_) (by rfl) rfl ?_ ?_
     rotate_left
     ·go_simp
      rfl
     refine hK.out _ _ ?_
     clear hK K
     refine done_ (done_of HT_.out rfK) ?_
     try go_wp2
     go_roundg k1
     case measure => have := HK1.out; omega
     case rel => exact ⟨(wrap64 (ae + 1)), (aD), (br), (.slice aQ aD.length aR), (.slice bE br.length bF), rfG, H', ⟨by have := HK1.out; omega⟩, ⟨by (with_reducible repeat (first | apply Kd.R_alloc | apply Kd.R_drewN | apply Kd.R_drew)); exact Kd.R_mono (Kd.R_far (p := ⟨ak, 1, none⟩) (Kd.R_types aU.out ac.out (by decide)) (fun _ hk => hk.2) (.slice bE br.length bF)) (fun _ hk => hk.1)⟩, ⟨by (with_reducible repeat (first | apply Kd.R_alloc | apply Kd.R_drewN | apply Kd.R_drew)); exact Kd.R_mono (Kd.R_far (p := ⟨ak, 1, none⟩) (Kd.R_types bD.out ac.out (by decide)) (fun _ hk => hk.2) (.slice bE br.length bF)) (fun _ hk => trivial)⟩, ⟨kBk⟩, ⟨kBk⟩, ⟨kBk⟩, ⟨kBk⟩, ⟨eTx HB.out⟩⟩
    ·have bL := Bool.eq_false_iff.mpr c13
     clear c13
     have H' := Aside0.mk H
     clear H
     have dd := aZ.out
     have de := a4.out
     have df := a5.out
     have dg := a6.out
     have dh := al.out
     have di := ax.out
     obtain ⟨ch, ci, cj, ck⟩ := bxB aa
     try go_wp2
     replace ad := am (Kd.R_drew ad.out)
     replace ab := am (Kd.R_drew ab.out)
     replace aa := am (blk_drew aa.out)
     replace af := am (blk_drew af.out)
     replace ag := am (blk_drew ag.out)
     replace ac := am (blk_drew ac.out)
     replace HB := am (below_drew1 HB.out)
     have p486 : 0 ≤ (ae : Int) := of_decide_eq_true rfA
     have q486 : ae < (l0_0.length : Int) := of_decide_eq_true rfA
     obtain ⟨ad486, e486, aq, ar⟩ := at_T27 bc.out ae p486 q486
     have hw486_1 := ar
     have hw486_0 := aq
     cases e486
     replace aq := (HB.out.cell (World.block_lt_of_cell? w _ aq)).trans aq
     replace ar := (HB.out.cell (World.block_lt_of_cell? w _ ar)).trans ar
     replace p486 := eq_true p486
     replace q486 := eq_true q486
     refine start_ (n := 7) (S := fun w' => w'.cell? ⟨au, 0, none⟩ = some (.slice (some ad486) l0_0.length av) ∧ w'.cell? ⟨au, 1, none⟩ = some (.slice ay l0_1.length aw) ∧ w'.cell? ⟨aI, 0, none⟩ = some (.string a1_0) ∧ w'.cell? ⟨aI, 1, none⟩ = some (.string a1_1) ∧ w'.cell? (ad486.add ((ae).toNat * 2)) = some (.string ((rd_T27 l0_0 ae).f0)) ∧ w'.cell? ⟨(ad486.add ((ae).toNat * 2)).block, (ad486.add ((ae).toNat * 2)).off + 1, none⟩ = some (.string ((rd_T27 l0_0 ae).f1))) (ds := []) (bA 7 0) rfK rfl rfK ⟨cT aa 0, cT aa 1, cT af 0, cT af 1, ((HB.out.cell (World.block_lt_of_cell? w _ hw486_0)).trans hw486_0), ((HB.out.cell (World.block_lt_of_cell? w _ hw486_1)).trans hw486_1)⟩ (fun hHeld => ?_)
     generalize wr.drew = w35 at ad ab aa af ag ac HB aq ar hHeld ⊢
     refine pure_ (i := 0) (N := some 15) (v := ?_) (a' := ?_) (bA 7 1) rfl rfl rfK (fun _ _ _ h => h) (Or.inl ⟨by rfl, ?_⟩) ?_ ?_
     rotate_left
     ·intro w'
      go_simp
      with_reducible rfl
     rotate_left
     ·simp only [pS]
      rfl
     refine pure_ (i := 2) (N := some 17) (v := ?_) (a' := ?_) (bA 7 5) rfl rfl rfK (fun _ _ _ h => h) (Or.inl ⟨by rfl, ?_⟩) ?_ ?_
     rotate_left
     ·intro w'
      go_simp
      with_reducible rfl
     rotate_left
     ·simp only [pS]
      rfl
     refine take_ (i := 1) (N := some 16) (v := ?_) (a' := ?_) (bA 7 7) rfl rfl rfK (fun _ _ _ h => h) (Or.inl ⟨by rfl, ?_⟩) hHeld ?_ ?_
     rotate_left
     ·rintro w' ⟨s0, s1, s2, s3, s4, s5⟩
      go_simp
      with_reducible rfl
     rotate_left
     ·simp only [pS]
      rfl
     refine pure_ (i := 3) (N := some 18) (v := ?_) (a' := ?_) (bA 7 15) rfl rfl rfK (fun _ _ _ h => h) (Or.inl ⟨by rfl, ?_⟩) ?_ ?_
     rotate_left
     ·intro w'
      go_simp
      with_reducible rfl
     rotate_left
     ·simp only [pS]
      rfl
     refine take_ (i := 4) (N := some 19) (v := ?_) (a' := ?_) (bA 7 31) rfl rfl rfK (fun _ _ _ h => h) (Or.inl ⟨by rfl, ?_⟩) hHeld ?_ ?_
     rotate_left
     ·rintro w' ⟨s0, s1, s2, s3, s4, s5⟩
      go_simp
      with_reducible rfl
     rotate_left
     ·simp only [pS]
      rfl
     refine take_ (i := 5) (N := some 20) (v := ?_) (a' := ?_) (bA 7 63) rfl rfl rfK (fun _ _ _ h => h) (Or.inl ⟨by rfl, ?_⟩) hHeld ?_ ?_
     rotate_left
     ·rintro w' ⟨s0, s1, s2, s3, s4, s5⟩
      go_simp
      with_reducible rfl
     rotate_left
     ·simp only [pS]
      rfl
     refine pure_ (i := 6) (N := some 21) (v := ?_) (a' := ?_) (bA 7 127) rfl rfl rfK (fun _ _ _ h => h) (Or.inl ⟨by rfl, ?_⟩) ?_ ?_
     rotate_left
     ·intro w'
      go_simp
      with_reducible rfl
     rotate_left
     ·simp only [pS]
      rfl
     refine done_ rfK ?_
     try go_wp2
     go_roundg k1
     case measure => have := HK1.out; omega
     case rel => exact ⟨(wrap64 (ae + 1)), (aj), (ah), (u486000), (u486001), rfG, H', ⟨by have := HK1.out; omega⟩, ⟨rT ad.out⟩, ⟨rT ab.out⟩, ⟨bT aa.out⟩, ⟨bT af.out⟩, ⟨bT ag.out⟩, ⟨bT ac.out⟩, ⟨eTx HB.out⟩⟩
   ·have bK := decide_eq_false c11
    clear c11
    replace H := prB H; obtain ⟨rfl, rfl⟩ := H
    have dj := aZ.out
    have dk := a4.out
    have dl := a5.out
    have dm := a6.out
    have dn := al.out
    have dp := ax.out
    obtain ⟨cl, cm, cn, co⟩ := bxB aa
    have dq := aM.out
    have dr := ao.out
    have dt := aN.out
    have du := ap.out
    obtain ⟨cp, cq, cr, ct⟩ := bxB ac
    obtain ⟨bt, bu, cI⟩ := Kd.R_slice ad.out
    subst cI
    have dv := bq.out
    have dw := bp.out
    obtain ⟨cu, cv, cw, cx⟩ := bxB ag
    obtain ⟨bG, bH, cJ⟩ := Kd.R_slice ab.out
    subst cJ
    go_wp2
    refine bodyPost_ret (results_cell_row rfl _ _ aK 25 #[.slice bt aj.length bu, .slice bG ah.length bH] (0, 0) _ rfl kBk Tryz.underlying25 rfl rfK) rfl ?_
    exact ⟨_, _, rfF, by (with_reducible repeat (first | apply Kd.R_alloc | apply Kd.R_drewN | apply Kd.R_drew)); exact Kd.R_mono (Kd.R_far (p := ⟨aK, 1, none⟩) (Kd.R_far (p := ⟨aK, 0, none⟩) (Kd.R_types ad.out ag.out (by decide)) (fun _ hk => hk.2) (.slice bt aj.length bu)) (fun _ hk => hk.2) (.slice bG ah.length bH)) (fun _ hk => trivial), by (with_reducible repeat (first | apply Kd.R_alloc | apply Kd.R_drewN | apply Kd.R_drew)); exact Kd.R_mono (Kd.R_far (p := ⟨aK, 1, none⟩) (Kd.R_far (p := ⟨aK, 0, none⟩) (Kd.R_types ab.out ag.out (by decide)) (fun _ hk => hk.2) (.slice bt aj.length bu)) (fun _ hk => hk.2) (.slice bG ah.length bH)) (fun _ hk => trivial), eTx HB.out⟩

end Go.Proofs.YtomjppafgalaoaaGreatDoor.P
