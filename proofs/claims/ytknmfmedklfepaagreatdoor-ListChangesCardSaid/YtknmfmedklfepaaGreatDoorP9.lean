-- half the indentation
import Derived.Test.YtknmfmedklfepaaGreatDoorReg
import Derived.Test.YtknmfmedklfepaaGreatDoorSqz
import Derived.Test.YtknmfmedklfepaaGreatDoorP0
import Derived.Test.YtknmfmedklfepaaGreatDoorP7
import Derived.Test.YtknmfmedklfepaaGreatDoorP8
namespace Go.Proofs.YtknmfmedklfepaaGreatDoor.P
open Go.RowKit Go.Proofs.YtknmfmedklfepaaGreatDoorW.PrintWords Go.Proofs.YtknmfmedklfepaaGreatDoorW.PrintLast Go.Proofs.YtknmfmedklfepaaGreatDoorW.PrintMore
attribute [local go_sem] max2_int min2_int max_two min_two max_three min_three max_four min_four
set_option linter.unusedVariables false
set_option linter.unusedSimpArgs false
set_option maxHeartbeats 8000000
set_option maxRecDepth 100000

/-! ### graftwoodref03_Cmp: function 42 -/
mutual
def graftwoodref03_Cmp.j0 : Nat → Int → Int → Bool → ByteArray → ByteArray → ByteArray → List ByteArray → ByteArray → ByteArray → ByteArray → List ByteArray → Option (Int)
 | 0, _, _, _, _, _, _, _, _, _, _, _ => none
 | k + 1, x12, x13, x61, aJ, aK, aL, aB, aM, aN, aO, aC => if x61 = true then (some 0) else (if x12 = 0 then (some 1) else (if x13 = 0 then (some (-1)) else (graftwoodref03_Cmp.l0 k x12 x13 0 aJ aK aL aB aM aN aO aC)))
def graftwoodref03_Cmp.l0 : Nat → Int → Int → Int → ByteArray → ByteArray → ByteArray → List ByteArray → ByteArray → ByteArray → ByteArray → List ByteArray → Option (Int)
 | 0, _, _, _, _, _, _, _, _, _, _, _ => none
 | k + 1, x12, x13, x14, aJ, aK, aL, aB, aM, aN, aO, aC => if x14 < x12 then (graftwoodref03_Cmp.j2 k x12 x13 x14 (decide (x14 < x13)) aJ aK aL aB aM aN aO aC) else (graftwoodref03_Cmp.j2 k x12 x13 x14 false aJ aK aL aB aM aN aO aC)
def graftwoodref03_Cmp.j2 : Nat → Int → Int → Int → Bool → ByteArray → ByteArray → ByteArray → List ByteArray → ByteArray → ByteArray → ByteArray → List ByteArray → Option (Int)
 | 0, _, _, _, _, _, _, _, _, _, _, _, _ => none
 | k + 1, x12, x13, x14, x73, aJ, aK, aL, aB, aM, aN, aO, aC => if x73 = true then (if 0 ≤ x14 then (if x14 < (aB.length : Int) then (if x14 < (aC.length : Int) then ((graftwoodref03_words.f k (rdOf ByteArray.empty aB x14) (rdOf ByteArray.empty aC x14)).bind fun aP => (if aP = 0 then (graftwoodref03_Cmp.l0 k x12 x13 (wrap64 (x14 + 1)) aJ aK aL aB aM aN aO aC) else (some aP))) else (none)) else (none)) else (none)) else (if x12 < x13 then (some (-1)) else (if x12 > x13 then (some 1) else (some 0)))
end
def graftwoodref03_Cmp.f (k : Nat) (a0 : ByteArray) (a1 : ByteArray) : Option (Int) := (graftwoodref03_Split.f k a0).bind fun bt165 => ((graftwoodref03_Split.f k a1).bind fun bt173 => ((graftwoodref02_Cmp.f k bt165.1 bt173.1).bind fun aA => (if aA = 0 then ((graftwoodref02_Cmp.f k bt165.2.1 bt173.2.1).bind fun ay => (if ay = 0 then ((graftwoodref02_Cmp.f k bt165.2.2.1 bt173.2.2.1).bind fun aw => (if aw = 0 then (if (bt165.2.2.2.1.length : Int) = 0 then (graftwoodref03_Cmp.j0 k (bt165.2.2.2.1.length : Int) (bt173.2.2.2.1.length : Int) ((bt173.2.2.2.1.length : Int) == 0) bt165.1 bt165.2.1 bt165.2.2.1 bt165.2.2.2.1 bt173.1 bt173.2.1 bt173.2.2.1 bt173.2.2.2.1) else (graftwoodref03_Cmp.j0 k (bt165.2.2.2.1.length : Int) (bt173.2.2.2.1.length : Int) false bt165.1 bt165.2.1 bt165.2.2.1 bt165.2.2.2.1 bt173.1 bt173.2.1 bt173.2.2.1 bt173.2.2.2.1)) else (some aw))) else (some ay))) else (some aA))))
theorem graftwoodref03_Cmp.mono_l : ∀ k, (∀ y0 y1 y2 y3 y4 y5 y6 y7 y8 y9 y10, LeO (graftwoodref03_Cmp.j0 k y0 y1 y2 y3 y4 y5 y6 y7 y8 y9 y10) (graftwoodref03_Cmp.j0 (k + 1) y0 y1 y2 y3 y4 y5 y6 y7 y8 y9 y10)) ∧ (∀ y0 y1 y2 y3 y4 y5 y6 y7 y8 y9 y10, LeO (graftwoodref03_Cmp.l0 k y0 y1 y2 y3 y4 y5 y6 y7 y8 y9 y10) (graftwoodref03_Cmp.l0 (k + 1) y0 y1 y2 y3 y4 y5 y6 y7 y8 y9 y10)) ∧ (∀ y0 y1 y2 y3 y4 y5 y6 y7 y8 y9 y10 y11, LeO (graftwoodref03_Cmp.j2 k y0 y1 y2 y3 y4 y5 y6 y7 y8 y9 y10 y11) (graftwoodref03_Cmp.j2 (k + 1) y0 y1 y2 y3 y4 y5 y6 y7 y8 y9 y10 y11))
 | 0 => ⟨fun _ _ _ _ _ _ _ _ _ _ _ r h => by simp [graftwoodref03_Cmp.j0] at h, fun _ _ _ _ _ _ _ _ _ _ _ r h => by simp [graftwoodref03_Cmp.l0] at h, fun _ _ _ _ _ _ _ _ _ _ _ _ r h => by simp [graftwoodref03_Cmp.j2] at h⟩
 | k + 1 => by
  obtain ⟨ih0, ih1, ih2⟩ := graftwoodref03_Cmp.mono_l k
  refine ⟨?_, ?_, ?_⟩
  ·intro y0 y1 y2 y3 y4 y5 y6 y7 y8 y9 y10
   unfold graftwoodref03_Cmp.j0
   repeat' first | (with_reducible first | apply ih0 | apply ih1 | apply ih2 | apply graftwoodref02_Cmp.mono | apply graftwoodref03_Split.mono | apply graftwoodref03_words.mono | apply LeO.refl | apply LeO.none | apply LeO.ite | refine LeO.bind ?_ (fun _ => ?_)) | apply ih0 | apply ih1 | apply ih2 | apply graftwoodref02_Cmp.mono | apply graftwoodref03_Split.mono | apply graftwoodref03_words.mono | exact LeO.none _ | refine LeO.ite ?_ ?_ | refine LeO.bind ?_ (fun _ => ?_)
  ·intro y0 y1 y2 y3 y4 y5 y6 y7 y8 y9 y10
   unfold graftwoodref03_Cmp.l0
   repeat' first | (with_reducible first | apply ih0 | apply ih1 | apply ih2 | apply graftwoodref02_Cmp.mono | apply graftwoodref03_Split.mono | apply graftwoodref03_words.mono | apply LeO.refl | apply LeO.none | apply LeO.ite | refine LeO.bind ?_ (fun _ => ?_)) | apply ih0 | apply ih1 | apply ih2 | apply graftwoodref02_Cmp.mono | apply graftwoodref03_Split.mono | apply graftwoodref03_words.mono | exact LeO.none _ | refine LeO.ite ?_ ?_ | refine LeO.bind ?_ (fun _ => ?_)
  ·intro y0 y1 y2 y3 y4 y5 y6 y7 y8 y9 y10 y11
   unfold graftwoodref03_Cmp.j2
   repeat' first | (with_reducible first | apply ih0 | apply ih1 | apply ih2 | apply graftwoodref02_Cmp.mono | apply graftwoodref03_Split.mono | apply graftwoodref03_words.mono | apply LeO.refl | apply LeO.none | apply LeO.ite | refine LeO.bind ?_ (fun _ => ?_)) | apply ih0 | apply ih1 | apply ih2 | apply graftwoodref02_Cmp.mono | apply graftwoodref03_Split.mono | apply graftwoodref03_words.mono | exact LeO.none _ | refine LeO.ite ?_ ?_ | refine LeO.bind ?_ (fun _ => ?_)
theorem graftwoodref03_Cmp.mono : ∀ a0 a1 k, LeO (graftwoodref03_Cmp.f k a0 a1) (graftwoodref03_Cmp.f (k + 1) a0 a1) := by
 intro a0 a1 k
 obtain ⟨ih0, ih1, ih2⟩ := graftwoodref03_Cmp.mono_l k
 unfold graftwoodref03_Cmp.f
 repeat' first | (with_reducible first | apply ih0 | apply ih1 | apply ih2 | apply graftwoodref02_Cmp.mono | apply graftwoodref03_Split.mono | apply graftwoodref03_words.mono | apply LeO.refl | apply LeO.none | apply LeO.ite | refine LeO.bind ?_ (fun _ => ?_)) | apply ih0 | apply ih1 | apply ih2 | apply graftwoodref02_Cmp.mono | apply graftwoodref03_Split.mono | apply graftwoodref03_words.mono | exact LeO.none _ | refine LeO.ite ?_ ?_ | refine LeO.bind ?_ (fun _ => ?_)
def graftwoodref03_Cmp.T12 : Bool × List (List Nat × List Nat) := (true, [([], []), ([0], [0]), ([1], [1]), ([], []), ([3], [3]), ([4], [4]), ([2, 0, 1, 2], [2]), ([5, 6, 0, 1, 2, 3, 4, 5, 6], [5])])
def graftwoodref03_Cmp.B12 : List Nat := [0, 1, 3, 0, 8, 24, 7, 127]
theorem graftwoodref03_Cmp.tab12 : rtab .any (opsOf Tryz.f42 12) = graftwoodref03_Cmp.T12 := by kernel_rfl
theorem graftwoodref03_Cmp.bits12 : waitsOk graftwoodref03_Cmp.T12.2 graftwoodref03_Cmp.B12 = true := by kernel_rfl
def graftwoodref03_Cmp.T22 : Bool × List (List Nat × List Nat) := (true, [([], []), ([0], [0]), ([], []), ([1, 2], [1, 2]), ([3], [3]), ([], []), ([5], [5]), ([], []), ([6, 7], [6, 7]), ([8], [8]), ([4, 9], [4, 9]), ([10, 10, 0, 1, 2, 3, 4, 5, 6, 7, 8, 9, 10], [10])])
def graftwoodref03_Cmp.B22 : List Nat := [0, 1, 0, 7, 15, 0, 32, 0, 224, 480, 1023, 2047]
theorem graftwoodref03_Cmp.tab22 : rtab .any (opsOf Tryz.f42 22) = graftwoodref03_Cmp.T22 := by kernel_rfl
theorem graftwoodref03_Cmp.bits22 : waitsOk graftwoodref03_Cmp.T22.2 graftwoodref03_Cmp.B22 = true := by kernel_rfl
theorem graftwoodref03_Cmp.calls (k : Nat) (a0 : ByteArray) (a1 : ByteArray) (r : Int) (w : World) (h : graftwoodref03_Cmp.f k a0 a1 = some r) :
  Calls Tryz.prog 42 #[.string a0, .string a1] w fun e w' => e = .returned (.int .i64 r) ∧ Below w.heap.size w w' := by
 have hu98 := Tryz.underlying98
 have HB := am (Below.refl w.heap.size w)
 unfold graftwoodref03_Cmp.f at h; have H := h; clear h
 replace H := bnd H; obtain ⟨⟨aj, ak, ao, ae, cq⟩, A3, H⟩ := H
 (try dsimp only at H)
 replace H := bnd H; obtain ⟨⟨ap, ar, au, af, cr⟩, A4, H⟩ := H
 (try dsimp only at H)
 replace H := bnd H; obtain ⟨aA, A5, H⟩ := H
 replace H := ifP H; rcases H with ⟨c6, H⟩ | ⟨c6, H⟩
 ·have ct := beq_iff_eq.mpr c6
  have cu := bne_eq_false_iff_eq.mpr c6
  clear c6
  replace H := bnd H; obtain ⟨ay, A7, H⟩ := H
  replace H := ifP H; rcases H with ⟨c8, H⟩ | ⟨c8, H⟩
  ·have cv := beq_iff_eq.mpr c8
   have cw := bne_eq_false_iff_eq.mpr c8
   clear c8
   replace H := bnd H; obtain ⟨aw, A9, H⟩ := H
   replace H := ifP H; rcases H with ⟨c10, H⟩ | ⟨c10, H⟩
   ·have a6 := beq_iff_eq.mpr c10
    have a7 := bne_eq_false_iff_eq.mpr c10
    clear c10
    have cG := Aside0.mk H
    clear H
    go_enter Tryz.func42, Tryz.ntmps42
    try go_wp2_with (first | ((with_reducible refine gtC 70 ?_); refine xCl 18 Tryz.func70 (graftwoodref03_Split.calls k a0 aj ak ao ae cq _ A3.out) ?_; rintro e w12 ⟨cH, rfl, ho0, hb⟩; refine ⟨_, rfl, ?_⟩; have ag := am (Kd.R_lower ho0 (below_size (eTx HB.out))); replace HB := am (sTx HB.out hb)) | ((with_reducible refine gtD 5 ?_); refine xBx 5 98 #[.string (⟨#[]⟩ : ByteArray), .string (⟨#[]⟩ : ByteArray), .string (⟨#[]⟩ : ByteArray), .slice none 0 0] ?_; intro ac hg w13 hbox hb; replace ag := am (rB ag.out hb); have aa := am (hbox); have cd := am ((gTx hg HB.out)); have ce := am ((gTx hg HB.out)); replace HB := am (sTx HB.out hb); clear hb hbox hg; obtain ⟨a9, a_, bb, bc, be, bf, bg, bh⟩ := bxD aa; obtain ⟨aH, aF, fe⟩ := Kd.R_slice ag.out; subst fe) | ((with_reducible refine gtC 70 ?_); refine xCl 23 Tryz.func70 (graftwoodref03_Split.calls k a1 ap ar au af cr _ A4.out) ?_; rintro e w16 ⟨cI, rfl, ho0, hb⟩; refine ⟨_, rfl, ?_⟩; have aq := am (Kd.R_lower (Kd.R_new' ho0 (Kd.R_lt (by (with_reducible repeat (first | apply Kd.R_alloc | apply Kd.R_drewN | apply Kd.R_drew)); exact (Kd.R_mono (Kd.R_far (p := ⟨ac, 3, none⟩) (Kd.R_far (p := ⟨ac, 2, none⟩) (Kd.R_far (p := ⟨ac, 1, none⟩) (Kd.R_far (p := ⟨ac, 0, none⟩) (Kd.R_types ag.out aa.out (by decide)) (fun _ hk => hk.2) (.string aj)) (fun _ hk => hk.2) (.string ak)) (fun _ hk => hk.2) (.string ao)) (fun _ hk => hk.2) (.slice aH ae.length aF)) (fun _ h_ => h_.1))))) (below_size (eTx HB.out))); replace ag := am (Kd.R_elder' (by (with_reducible repeat (first | apply Kd.R_alloc | apply Kd.R_drewN | apply Kd.R_drew)); exact (Kd.R_mono (Kd.R_far (p := ⟨ac, 3, none⟩) (Kd.R_far (p := ⟨ac, 2, none⟩) (Kd.R_far (p := ⟨ac, 1, none⟩) (Kd.R_far (p := ⟨ac, 0, none⟩) (Kd.R_types ag.out aa.out (by decide)) (fun _ hk => hk.2) (.string aj)) (fun _ hk => hk.2) (.string ak)) (fun _ hk => hk.2) (.string ao)) (fun _ hk => hk.2) (.slice aH ae.length aF)) (fun _ h_ => h_.1))) (Kd.R_base ho0) hb); replace HB := am (sTx HB.out hb); replace aa := am (blk_below (g := ac) (o := .cells #[.string aj, .string ak, .string ao, .slice aH ae.length aF] 98 (0, 0)) kBk hb)) | ((with_reducible refine gtD 7 ?_); refine xBx 7 98 #[.string (⟨#[]⟩ : ByteArray), .string (⟨#[]⟩ : ByteArray), .string (⟨#[]⟩ : ByteArray), .slice none 0 0] ?_; intro ad hg w17 hbox hb; replace ag := am (rB ag.out hb); replace aq := am (rB aq.out hb); have ab := am (hbox); have cf := am ((gTx hg HB.out)); have cg := am ((gTx hg HB.out)); have ah := am ((nT aa.out hg)); have ax := am ((mT aa.out hg)); replace aa := am (bB aa.out hb); replace HB := am (sTx HB.out hb); clear hb hbox hg; have fv := ax.out; have fw := ah.out; obtain ⟨bi, bj, bk, bl, bm, bo, bp, bq⟩ := bxD ab; obtain ⟨aQ, aI, ff⟩ := Kd.R_slice aq.out; subst ff; obtain ⟨aY, aZ, br, bs, a4, a5, bt, bu⟩ := bxD aa) | ((with_reducible refine gtC 71 ?_); refine xCb 30 Tryz.func71 (graftwoodref02_Cmp.calls k aj ap aA _ A5.out) fun w22 hb => ?_; replace ag := am (Kd.R_below (by (with_reducible repeat (first | apply Kd.R_alloc | apply Kd.R_drewN | apply Kd.R_drew)); exact (Kd.R_mono (Kd.R_far (p := ⟨ad, 3, none⟩) (Kd.R_far (p := ⟨ad, 2, none⟩) (Kd.R_far (p := ⟨ad, 1, none⟩) (Kd.R_far (p := ⟨ad, 0, none⟩) (Kd.R_types ag.out ab.out (by decide)) (fun _ hk => hk.2) (.string ap)) (fun _ hk => hk.2) (.string ar)) (fun _ hk => hk.2) (.string au)) (fun _ hk => hk.2) (.slice aQ af.length aI)) (fun _ h_ => h_.1))) hb); replace aq := am (Kd.R_below (by (with_reducible repeat (first | apply Kd.R_alloc | apply Kd.R_drewN | apply Kd.R_drew)); exact (Kd.R_mono (Kd.R_far (p := ⟨ad, 3, none⟩) (Kd.R_far (p := ⟨ad, 2, none⟩) (Kd.R_far (p := ⟨ad, 1, none⟩) (Kd.R_far (p := ⟨ad, 0, none⟩) (Kd.R_types aq.out ab.out (by decide)) (fun _ hk => hk.2) (.string ap)) (fun _ hk => hk.2) (.string ar)) (fun _ hk => hk.2) (.string au)) (fun _ hk => hk.2) (.slice aQ af.length aI)) (fun _ h_ => h_.1))) hb); replace aa := am (blk_below (g := ac) (o := .cells #[.string aj, .string ak, .string ao, .slice aH ae.length aF] 98 (0, 0)) kBk hb); replace HB := am (sTx HB.out hb); replace ab := am (blk_below (g := ad) (o := .cells #[.string ap, .string ar, .string au, .slice aQ af.length aI] 98 (0, 0)) kBk hb); obtain ⟨bv, bw, bx, bz, bC, bD, bE, bF⟩ := bxD aa; obtain ⟨bG, bH, bI, bJ, bK, bL, bM, bN⟩ := bxD ab) | ((with_reducible refine gtC 71 ?_); refine xCb 38 Tryz.func71 (graftwoodref02_Cmp.calls k ak ar ay _ A7.out) fun w25 hb => ?_; replace ag := am (rB ag.out hb); replace aq := am (rB aq.out hb); replace aa := am (bB aa.out hb); replace ab := am (bB ab.out hb); replace HB := am (sTx HB.out hb); obtain ⟨bO, bP, bQ, bR, bS, bU, bV, bW⟩ := bxD aa; obtain ⟨bX, bZ, b0, b1, b2, b3, b4, b5⟩ := bxD ab) | ((with_reducible refine gtC 71 ?_); refine xCb 46 Tryz.func71 (graftwoodref02_Cmp.calls k ao au aw _ A9.out) fun w28 hb => ?_; replace ag := am (rB ag.out hb); replace aq := am (rB aq.out hb); replace aa := am (bB aa.out hb); replace ab := am (bB ab.out hb); replace HB := am (sTx HB.out hb)))
    replace ag := am (Kd.R_drew ag.out)
    replace aq := am (Kd.R_drew aq.out)
    replace aa := am (blk_drew aa.out)
    replace ab := am (blk_drew ab.out)
    replace HB := am (below_drew1 HB.out)
    refine start_ (n := 8) (S := fun w' => w'.cell? ⟨ac, 0, none⟩ = some (.string aj) ∧ w'.cell? ⟨ac, 1, none⟩ = some (.string ak) ∧ w'.cell? ⟨ac, 2, none⟩ = some (.string ao) ∧ w'.cell? ⟨ac, 3, none⟩ = some (.slice aH ae.length aF) ∧ w'.cell? ⟨ad, 0, none⟩ = some (.string ap) ∧ w'.cell? ⟨ad, 1, none⟩ = some (.string ar) ∧ w'.cell? ⟨ad, 2, none⟩ = some (.string au) ∧ w'.cell? ⟨ad, 3, none⟩ = some (.slice aQ af.length aI)) (ds := []) (bA 8 0) rfK rfl rfK ⟨cT aa 0, cT aa 1, cT aa 2, cT aa 3, cT ab 0, cT ab 1, cT ab 2, cT ab 3⟩ (fun hHeld => ?_); refine with_tabW graftwoodref03_Cmp.tab12 graftwoodref03_Cmp.bits12 (fun HT_ HW_ => ?_)
    generalize w28.drew = w29 at ag aq aa ab HB hHeld ⊢
    refine zT HT_ ?_
    refine zL HT_ HW_ hHeld ?_ (hy := by rintro w' ⟨s0, s1, s2, s3, s4, s5, s6, s7⟩; go_simp; with_reducible rfl)
    iterate 2 refine zT HT_ ?_
    refine zL HT_ HW_ hHeld ?_ (hy := by rintro w' ⟨s0, s1, s2, s3, s4, s5, s6, s7⟩; go_simp; with_reducible rfl)
    iterate 3 refine zT HT_ ?_
    refine done_ (done_of HT_.out rfK) ?_
    go_upto_region 13 with (fail)
    go_cut [61] (fun v61 wc => ∃ (kq : Nat) (b6 : Bool), v61 = .bool b6 ∧ Aside0 (graftwoodref03_Cmp.j0 kq (ae.length : Int) (af.length : Int) b6 aj ak ao ae ap ar au af = some r) ∧ Aside0 (kq ≤ k) ∧ Aside0 (Kd.R Kd.string 9 wc w.heap.size (fun k_ => some k_ ≠ ((.slice aQ af.length aI) : Value).ownBlock) (.slice aH ae.length aF) ae) ∧ Aside0 (Kd.R Kd.string 9 wc w.heap.size (fun k_ => some k_ ≠ ((.slice aH ae.length aF) : Value).ownBlock) (.slice aQ af.length aI) af) ∧ Aside0 (wc.heap[ac]? = some (.cells #[.string aj, .string ak, .string ao, (.slice aH ae.length aF)] 98 (0, 0))) ∧ Aside0 (wc.heap[ad]? = some (.cells #[.string ap, .string ar, .string au, (.slice aQ af.length aI)] 98 (0, 0))) ∧ Aside0 (Below w.heap.size w wc))
    case first =>
     have H := cG.out
     clear cG
     replace H := ifP H; rcases H with ⟨c30, H⟩ | ⟨c30, H⟩
     ·have aV := beq_iff_eq.mpr c30
      have ca := bne_eq_false_iff_eq.mpr c30
      clear c30
      (first | rw [aV] | (simp only [i64_w, i32_w]; rw [aV]) | skip)
      have H' := Aside0.mk H
      clear H
      go_wp2
      go_meet
      case rel => exact ⟨_, (((af.length : Int) == 0)), rfG, H', ⟨rfO⟩, ⟨by (with_reducible repeat (first | apply Kd.R_alloc | apply Kd.R_drewN | apply Kd.R_drew)); exact Kd.R_mono ag.out (fun _ hk => hk.2)⟩, ⟨by (with_reducible repeat (first | apply Kd.R_alloc | apply Kd.R_drewN | apply Kd.R_drew)); exact Kd.R_mono aq.out (fun _ hk => hk.2)⟩, ⟨bT aa.out⟩, ⟨bT ab.out⟩, ⟨eTx HB.out⟩⟩
     ·have aV := beq_eq_false_iff_ne.mpr c30
      have ca := bne_iff_ne.mpr c30
      have ch : ¬ (ae = []) := fun h_ => c30 (by rw [h_]; rfl)
      (first | rw [aV] | (simp only [i64_w, i32_w]; rw [aV]) | skip)
      have H' := Aside0.mk H
      clear H
      go_wp2
      go_meet
      case rel => exact ⟨_, (false), rfG, H', ⟨rfO⟩, ⟨by (with_reducible repeat (first | apply Kd.R_alloc | apply Kd.R_drewN | apply Kd.R_drew)); exact Kd.R_mono ag.out (fun _ hk => hk.2)⟩, ⟨by (with_reducible repeat (first | apply Kd.R_alloc | apply Kd.R_drewN | apply Kd.R_drew)); exact Kd.R_mono aq.out (fun _ hk => hk.2)⟩, ⟨bT aa.out⟩, ⟨bT ab.out⟩, ⟨eTx HB.out⟩⟩
    case rest =>
     clear cG
     obtain ⟨kq, b6, rfl, HA, cx, al, an, aa, ab, HB⟩ := hcut
     cases kq with
     | zero => exact absurd HA.out (by simp [graftwoodref03_Cmp.j0])
     | succ kj10 =>
      have H := HA.out
      clear HA
      simp only [graftwoodref03_Cmp.j0] at H
      replace H := ifB H; rcases H with ⟨rfl, H⟩ | ⟨rfl, H⟩
      ·obtain rfl := smI H
       go_wp2
       go_ret
       exact ⟨rfF, eTx HB.out⟩
      ·replace H := ifP H; rcases H with ⟨c32, H⟩ | ⟨c32, H⟩
       ·have ci := beq_iff_eq.mpr c32
        have cj := bne_eq_false_iff_eq.mpr c32
        clear c32
        obtain rfl := smI H
        go_wp2
        go_ret
        exact ⟨rfF, eTx HB.out⟩
       ·have ci := beq_eq_false_iff_ne.mpr c32
        have cj := bne_iff_ne.mpr c32
        have cA : ¬ (ae = []) := fun h_ => c32 (by rw [h_]; rfl)
        replace H := ifP H; rcases H with ⟨c33, H⟩ | ⟨c33, H⟩
        ·have ck := beq_iff_eq.mpr c33
         have cl := bne_eq_false_iff_eq.mpr c33
         clear c33
         obtain rfl := smI H
         go_wp2
         go_ret
         exact ⟨rfF, eTx HB.out⟩
        ·have ck := beq_eq_false_iff_ne.mpr c33
         have cl := bne_iff_ne.mpr c33
         have cB : ¬ (af = []) := fun h_ => c33 (by rw [h_]; rfl)
         have H' := Aside0.mk H
         clear H
         go_wp2
         go_loopg [14] kj10 (fun kq v14 w' => ∃ (ai : Int), v14 = .int .i64 ai ∧ Aside0 (graftwoodref03_Cmp.l0 kq (ae.length : Int) (af.length : Int) ai aj ak ao ae ap ar au af = some r) ∧ Aside0 (kq ≤ kj10) ∧ Aside0 (Kd.R Kd.string 9 w' w.heap.size (fun k_ => some k_ ≠ ((.slice aQ af.length aI) : Value).ownBlock) (.slice aH ae.length aF) ae) ∧ Aside0 (Kd.R Kd.string 9 w' w.heap.size (fun k_ => some k_ ≠ ((.slice aH ae.length aF) : Value).ownBlock) (.slice aQ af.length aI) af) ∧ Aside0 (w'.heap[ac]? = some (.cells #[.string aj, .string ak, .string ao, (.slice aH ae.length aF)] 98 (0, 0))) ∧ Aside0 (w'.heap[ad]? = some (.cells #[.string ap, .string ar, .string au, (.slice aQ af.length aI)] 98 (0, 0))) ∧ Aside0 (Below w.heap.size w w'))
         case atStart => exact ⟨(0), rfG, H', ⟨Nat.le_refl _⟩, ⟨rT al.out⟩, ⟨rT an.out⟩, ⟨bT aa.out⟩, ⟨bT ab.out⟩, ⟨eTx HB.out⟩⟩
         case round =>
          clear H'
          obtain ⟨ai, rfl, HA, HK2, al, an, aa, ab, HB⟩ := hrel
          cases gk with
          | zero => exact absurd HA.out (by simp [graftwoodref03_Cmp.l0])
          | succ k2 =>
           have H := HA.out
           clear HA
           simp only [graftwoodref03_Cmp.l0] at H
           have cJ := Aside0.mk H
           clear H
           go_upto_region 20 with (fail)
           go_cut [73] (fun v73 wc => ∃ (kq : Nat) (b7 : Bool), v73 = .bool b7 ∧ Aside0 (graftwoodref03_Cmp.j2 kq (ae.length : Int) (af.length : Int) ai b7 aj ak ao ae ap ar au af = some r) ∧ Aside0 (kq ≤ k2) ∧ Aside0 (Kd.R Kd.string 9 wc w.heap.size (fun k_ => some k_ ≠ ((.slice aQ af.length aI) : Value).ownBlock) (.slice aH ae.length aF) ae) ∧ Aside0 (Kd.R Kd.string 9 wc w.heap.size (fun k_ => some k_ ≠ ((.slice aH ae.length aF) : Value).ownBlock) (.slice aQ af.length aI) af) ∧ Aside0 (wc.heap[ac]? = some (.cells #[.string aj, .string ak, .string ao, (.slice aH ae.length aF)] 98 (0, 0))) ∧ Aside0 (wc.heap[ad]? = some (.cells #[.string ap, .string ar, .string au, (.slice aQ af.length aI)] 98 (0, 0))) ∧ Aside0 (Below w.heap.size w wc))
           case first =>
            have H := cJ.out
            clear cJ
            replace H := ifP H; rcases H with ⟨c35, H⟩ | ⟨c35, H⟩
            ·have a8 := decide_eq_true c35
             clear c35
             (first | rw [a8] | (simp only [i64_w, i32_w]; rw [a8]) | skip)
             have H' := Aside0.mk H
             clear H
             go_wp2
             go_meet
             case rel => exact ⟨_, (decide (ai < (af.length : Int))), rfG, H', ⟨by have := cx.out; have := HK2.out; first | omega | exact Nat.le_refl _⟩, ⟨rT al.out⟩, ⟨rT an.out⟩, ⟨bT aa.out⟩, ⟨bT ab.out⟩, ⟨eTx HB.out⟩⟩
            ·have a8 := decide_eq_false c35
             clear c35
             (first | rw [a8] | (simp only [i64_w, i32_w]; rw [a8]) | skip)
             have H' := Aside0.mk H
             clear H
             go_wp2
             go_meet
             case rel => exact ⟨_, (false), rfG, H', ⟨by have := cx.out; have := HK2.out; first | omega | exact Nat.le_refl _⟩, ⟨rT al.out⟩, ⟨rT an.out⟩, ⟨bT aa.out⟩, ⟨bT ab.out⟩, ⟨eTx HB.out⟩⟩
           case rest =>
            clear cJ
            obtain ⟨kq, b7, rfl, HA, cM, al, an, aa, ab, HB⟩ := hcut
            cases kq with
            | zero => exact absurd HA.out (by simp [graftwoodref03_Cmp.j2])
            | succ kj33 =>
             have H := HA.out
             clear HA
             simp only [graftwoodref03_Cmp.j2] at H
             replace H := ifB H; rcases H with ⟨rfl, H⟩ | ⟨rfl, H⟩
             ·replace H := ifN H; obtain ⟨c37, H⟩ := H
              have fx := decide_eq_true c37
              clear c37
              replace H := ifN H; obtain ⟨c38, H⟩ := H
              have fy := decide_eq_true c38
              clear c38
              replace H := ifN H; obtain ⟨c39, H⟩ := H
              have fz := decide_eq_true c39
              clear c39
              replace H := bnd H; obtain ⟨aP, A40, H⟩ := H
              replace H := ifP H; rcases H with ⟨c41, H⟩ | ⟨c41, H⟩
              ·have cO := beq_iff_eq.mpr c41
               have cP := bne_eq_false_iff_eq.mpr c41
               clear c41
               have H' := Aside0.mk H
               clear H
               try go_wp2
               replace al := am (Kd.R_drew al.out)
               replace an := am (Kd.R_drew an.out)
               replace aa := am (blk_drew aa.out)
               replace ab := am (blk_drew ab.out)
               replace HB := am (below_drew1 HB.out)
               have p184 : 0 ≤ (ai : Int) := of_decide_eq_true rfA
               have q184 : ai < (ae.length : Int) := of_decide_eq_true rfA
               obtain ⟨ad184, e184, aR⟩ := Kd.at_string (Kd.R_reads' al.out).2.2 ai p184 q184
               cases e184
               replace p184 := eq_true p184
               replace q184 := eq_true q184
               have p185 : 0 ≤ (ai : Int) := of_decide_eq_true rfA
               have q185 : ai < (af.length : Int) := of_decide_eq_true rfA
               obtain ⟨ad185, e185, aU⟩ := Kd.at_string (Kd.R_reads' an.out).2.2 ai p185 q185
               cases e185
               replace p185 := eq_true p185
               replace q185 := eq_true q185
               refine start_ (n := 12) (S := fun w' => w'.cell? ⟨ac, 0, none⟩ = some (.string aj) ∧ w'.cell? ⟨ac, 1, none⟩ = some (.string ak) ∧ w'.cell? ⟨ac, 2, none⟩ = some (.string ao) ∧ w'.cell? ⟨ac, 3, none⟩ = some (.slice (some ad184) ae.length aF) ∧ w'.cell? ⟨ad, 0, none⟩ = some (.string ap) ∧ w'.cell? ⟨ad, 1, none⟩ = some (.string ar) ∧ w'.cell? ⟨ad, 2, none⟩ = some (.string au) ∧ w'.cell? ⟨ad, 3, none⟩ = some (.slice (some ad185) af.length aI) ∧ w'.cell? (ad184.add (ai).toNat) = some (.string (rdOf ByteArray.empty ae ai)) ∧ w'.cell? (ad185.add (ai).toNat) = some (.string (rdOf ByteArray.empty af ai))) (ds := []) (bA 12 0) rfK rfl rfK ⟨cT aa 0, cT aa 1, cT aa 2, cT aa 3, cT ab 0, cT ab 1, cT ab 2, cT ab 3, aR, aU⟩ (fun hHeld => ?_); refine with_tabW graftwoodref03_Cmp.tab22 graftwoodref03_Cmp.bits22 (fun HT_ HW_ => ?_)
               generalize wc.drew = w42 at al an aa ab HB aR aU hHeld ⊢
               refine zT HT_ ?_
               refine zL HT_ HW_ hHeld ?_ (hy := by rintro w' ⟨s0, s1, s2, s3, s4, s5, s6, s7, s8, s9⟩; go_simp; with_reducible rfl)
               iterate 2 refine zT HT_ ?_
               refine zL HT_ HW_ hHeld ?_ (hy := by rintro w' ⟨s0, s1, s2, s3, s4, s5, s6, s7, s8, s9⟩; go_simp; with_reducible rfl)
               refine zT HT_ ?_
               refine zL HT_ HW_ hHeld ?_ (hy := by rintro w' ⟨s0, s1, s2, s3, s4, s5, s6, s7, s8, s9⟩; go_simp; with_reducible rfl)
               iterate 2 refine zT HT_ ?_
               refine zL HT_ HW_ hHeld ?_ (hy := by rintro w' ⟨s0, s1, s2, s3, s4, s5, s6, s7, s8, s9⟩; go_simp; with_reducible rfl)
               refine zO HT_ fun K hK => ?_
               refine gS Tryz.func72 #[.string (rdOf ByteArray.empty ae ai), .string (rdOf ByteArray.empty af ai)] ?_
               with_reducible refine (graftwoodref03_words.calls kj33 (rdOf ByteArray.empty ae ai) (rdOf ByteArray.empty af ai) aP _ A40.out).mono ?_
               rintro e w43 ⟨rfl, hb⟩
               have HS8_ := (hb.cell (World.block_lt_of_cell? _ _ (hHeld.2.2.2.2.2.2.2.2.1))).trans (hHeld.2.2.2.2.2.2.2.2.1)
               have HS9_ := (hb.cell (World.block_lt_of_cell? _ _ (hHeld.2.2.2.2.2.2.2.2.2))).trans (hHeld.2.2.2.2.2.2.2.2.2)
               refine ⟨_, rfl, ?_⟩
               replace al := am (rB al.out hb)
               replace an := am (rB an.out hb)
               replace aa := am (bB aa.out hb)
               replace ab := am (bB ab.out hb)
               replace HB := am (sTx HB.out hb)
               refine hK.out _ _ ⟨cT aa 0, cT aa 1, cT aa 2, cT aa 3, cT ab 0, cT ab 1, cT ab 2, cT ab 3, HS8_, HS9_⟩ (fun hHeld => ?_)
               clear hK K
               refine mN _ ?_
               refine zT HT_ ?_
               refine done_ (done_of HT_.out rfK) ?_
               try go_wp2
               go_roundg kj33
               case measure => have := cx.out; have := HK2.out; have := cM.out; omega
               case rel => exact ⟨(wrap64 (ai + 1)), rfG, H', ⟨by have := cx.out; have := HK2.out; have := cM.out; omega⟩, ⟨rT al.out⟩, ⟨rT an.out⟩, ⟨bT aa.out⟩, ⟨bT ab.out⟩, ⟨eTx HB.out⟩⟩
              ·have cO := beq_eq_false_iff_ne.mpr c41
               have cP := bne_iff_ne.mpr c41
               obtain rfl := smI H
               try go_wp2
               replace al := am (Kd.R_drew al.out)
               replace an := am (Kd.R_drew an.out)
               replace aa := am (blk_drew aa.out)
               replace ab := am (blk_drew ab.out)
               replace HB := am (below_drew1 HB.out)
               have p184 : 0 ≤ (ai : Int) := of_decide_eq_true rfA
               have q184 : ai < (ae.length : Int) := of_decide_eq_true rfA
               obtain ⟨ad184, e184, aR⟩ := Kd.at_string (Kd.R_reads' al.out).2.2 ai p184 q184
               cases e184
               replace p184 := eq_true p184
               replace q184 := eq_true q184
               have p185 : 0 ≤ (ai : Int) := of_decide_eq_true rfA
               have q185 : ai < (af.length : Int) := of_decide_eq_true rfA
               obtain ⟨ad185, e185, aU⟩ := Kd.at_string (Kd.R_reads' an.out).2.2 ai p185 q185
               cases e185
               replace p185 := eq_true p185
               replace q185 := eq_true q185
               refine start_ (n := 12) (S := fun w' => w'.cell? ⟨ac, 0, none⟩ = some (.string aj) ∧ w'.cell? ⟨ac, 1, none⟩ = some (.string ak) ∧ w'.cell? ⟨ac, 2, none⟩ = some (.string ao) ∧ w'.cell? ⟨ac, 3, none⟩ = some (.slice (some ad184) ae.length aF) ∧ w'.cell? ⟨ad, 0, none⟩ = some (.string ap) ∧ w'.cell? ⟨ad, 1, none⟩ = some (.string ar) ∧ w'.cell? ⟨ad, 2, none⟩ = some (.string au) ∧ w'.cell? ⟨ad, 3, none⟩ = some (.slice (some ad185) af.length aI) ∧ w'.cell? (ad184.add (ai).toNat) = some (.string (rdOf ByteArray.empty ae ai)) ∧ w'.cell? (ad185.add (ai).toNat) = some (.string (rdOf ByteArray.empty af ai))) (ds := []) (bA 12 0) rfK rfl rfK ⟨cT aa 0, cT aa 1, cT aa 2, cT aa 3, cT ab 0, cT ab 1, cT ab 2, cT ab 3, aR, aU⟩ (fun hHeld => ?_); refine with_tabW graftwoodref03_Cmp.tab22 graftwoodref03_Cmp.bits22 (fun HT_ HW_ => ?_)
               generalize wc.drew = w44 at al an aa ab HB aR aU hHeld ⊢
               refine zT HT_ ?_
               refine zL HT_ HW_ hHeld ?_ (hy := by rintro w' ⟨s0, s1, s2, s3, s4, s5, s6, s7, s8, s9⟩; go_simp; with_reducible rfl)
               iterate 2 refine zT HT_ ?_
               refine zL HT_ HW_ hHeld ?_ (hy := by rintro w' ⟨s0, s1, s2, s3, s4, s5, s6, s7, s8, s9⟩; go_simp; with_reducible rfl)
               refine zT HT_ ?_
               refine zL HT_ HW_ hHeld ?_ (hy := by rintro w' ⟨s0, s1, s2, s3, s4, s5, s6, s7, s8, s9⟩; go_simp; with_reducible rfl)
               iterate 2 refine zT HT_ ?_
               refine zL HT_ HW_ hHeld ?_ (hy := by rintro w' ⟨s0, s1, s2, s3, s4, s5, s6, s7, s8, s9⟩; go_simp; with_reducible rfl)
               refine zO HT_ fun K hK => ?_
               refine gS Tryz.func72 #[.string (rdOf ByteArray.empty ae ai), .string (rdOf ByteArray.empty af ai)] ?_
               with_reducible refine (graftwoodref03_words.calls kj33 (rdOf ByteArray.empty ae ai) (rdOf ByteArray.empty af ai) aP _ A40.out).mono ?_
               rintro e w45 ⟨rfl, hb⟩
               have HS8_ := (hb.cell (World.block_lt_of_cell? _ _ (hHeld.2.2.2.2.2.2.2.2.1))).trans (hHeld.2.2.2.2.2.2.2.2.1)
               have HS9_ := (hb.cell (World.block_lt_of_cell? _ _ (hHeld.2.2.2.2.2.2.2.2.2))).trans (hHeld.2.2.2.2.2.2.2.2.2)
               refine ⟨_, rfl, ?_⟩
               replace al := am (rB al.out hb)
               replace an := am (rB an.out hb)
               replace aa := am (bB aa.out hb)
               replace ab := am (bB ab.out hb)
               replace HB := am (sTx HB.out hb)
               refine hK.out _ _ ⟨cT aa 0, cT aa 1, cT aa 2, cT aa 3, cT ab 0, cT ab 1, cT ab 2, cT ab 3, HS8_, HS9_⟩ (fun hHeld => ?_)
               clear hK K
               refine mN _ ?_
               refine zT HT_ ?_
               refine done_ (done_of HT_.out rfK) ?_
               try go_wp2
               go_ret
               exact ⟨rfF, eTx HB.out⟩
             ·replace H := ifP H; rcases H with ⟨c46, H⟩ | ⟨c46, H⟩
              ·have cQ := decide_eq_true c46
               have cR : decide (ae.length < af.length) = true := decide_eq_true (Int.ofNat_lt.mp c46)
               clear c46
               obtain rfl := smI H
               go_wp2
               go_ret
               exact ⟨rfF, eTx HB.out⟩
              ·have cQ := decide_eq_false c46
               have cR : decide (ae.length < af.length) = false := decide_eq_false (fun h => c46 (Int.ofNat_lt.mpr h))
               clear c46
               replace H := ifP H; rcases H with ⟨c47, H⟩ | ⟨c47, H⟩
               ·have cS : decide ((af.length : Int) < (ae.length : Int)) = true := decide_eq_true c47
                have cU : decide (af.length < ae.length) = true := decide_eq_true (Int.ofNat_lt.mp c47)
                clear c47
                obtain rfl := smI H
                go_wp2
                go_ret
                exact ⟨rfF, eTx HB.out⟩
               ·have cS : decide ((af.length : Int) < (ae.length : Int)) = false := decide_eq_false c47
                have cU : decide (af.length < ae.length) = false := decide_eq_false (fun h => c47 (Int.ofNat_lt.mpr h))
                clear c47
                obtain rfl := smI H
                go_wp2
                go_ret
                exact ⟨rfF, eTx HB.out⟩
   ·have a6 := beq_eq_false_iff_ne.mpr c10
    have a7 := bne_iff_ne.mpr c10
    obtain rfl := smI H
    go_enter Tryz.func42, Tryz.ntmps42
    go_wp2_with (first | ((with_reducible refine gtC 70 ?_); refine xCl 18 Tryz.func70 (graftwoodref03_Split.calls k a0 aj ak ao ae cq _ A3.out) ?_; rintro e w48 ⟨cH, rfl, ho0, hb⟩; refine ⟨_, rfl, ?_⟩; have ag := am (Kd.R_lower ho0 (below_size (eTx HB.out))); replace HB := am (sTx HB.out hb)) | ((with_reducible refine gtD 5 ?_); refine xBx 5 98 #[.string (⟨#[]⟩ : ByteArray), .string (⟨#[]⟩ : ByteArray), .string (⟨#[]⟩ : ByteArray), .slice none 0 0] ?_; intro ac hg w49 hbox hb; replace ag := am (rB ag.out hb); have aa := am (hbox); have cd := am ((gTx hg HB.out)); have ce := am ((gTx hg HB.out)); replace HB := am (sTx HB.out hb); clear hb hbox hg; obtain ⟨cX, cY, cZ, c0, c2, c5, c9, c_⟩ := bxD aa; obtain ⟨b9, b_, fg⟩ := Kd.R_slice ag.out; subst fg) | ((with_reducible refine gtC 70 ?_); refine xCl 23 Tryz.func70 (graftwoodref03_Split.calls k a1 ap ar au af cr _ A4.out) ?_; rintro e w52 ⟨cI, rfl, ho0, hb⟩; refine ⟨_, rfl, ?_⟩; have aq := am (Kd.R_lower (Kd.R_new' ho0 (Kd.R_lt (by (with_reducible repeat (first | apply Kd.R_alloc | apply Kd.R_drewN | apply Kd.R_drew)); exact (Kd.R_mono (Kd.R_far (p := ⟨ac, 3, none⟩) (Kd.R_far (p := ⟨ac, 2, none⟩) (Kd.R_far (p := ⟨ac, 1, none⟩) (Kd.R_far (p := ⟨ac, 0, none⟩) (Kd.R_types ag.out aa.out (by decide)) (fun _ hk => hk.2) (.string aj)) (fun _ hk => hk.2) (.string ak)) (fun _ hk => hk.2) (.string ao)) (fun _ hk => hk.2) (.slice b9 ae.length b_)) (fun _ h_ => h_.1))))) (below_size (eTx HB.out))); replace ag := am (Kd.R_elder' (by (with_reducible repeat (first | apply Kd.R_alloc | apply Kd.R_drewN | apply Kd.R_drew)); exact (Kd.R_mono (Kd.R_far (p := ⟨ac, 3, none⟩) (Kd.R_far (p := ⟨ac, 2, none⟩) (Kd.R_far (p := ⟨ac, 1, none⟩) (Kd.R_far (p := ⟨ac, 0, none⟩) (Kd.R_types ag.out aa.out (by decide)) (fun _ hk => hk.2) (.string aj)) (fun _ hk => hk.2) (.string ak)) (fun _ hk => hk.2) (.string ao)) (fun _ hk => hk.2) (.slice b9 ae.length b_)) (fun _ h_ => h_.1))) (Kd.R_base ho0) hb); replace HB := am (sTx HB.out hb); replace aa := am (blk_below (g := ac) (o := .cells #[.string aj, .string ak, .string ao, .slice b9 ae.length b_] 98 (0, 0)) kBk hb)) | ((with_reducible refine gtD 7 ?_); refine xBx 7 98 #[.string (⟨#[]⟩ : ByteArray), .string (⟨#[]⟩ : ByteArray), .string (⟨#[]⟩ : ByteArray), .slice none 0 0] ?_; intro ad hg w53 hbox hb; replace ag := am (rB ag.out hb); replace aq := am (rB aq.out hb); have ab := am (hbox); have cf := am ((gTx hg HB.out)); have cg := am ((gTx hg HB.out)); have ah := am ((nT aa.out hg)); have ax := am ((mT aa.out hg)); replace aa := am (bB aa.out hb); replace HB := am (sTx HB.out hb); clear hb hbox hg; have fA := ax.out; have fC := ah.out; obtain ⟨da, db, dc, dd, de, df, dg, dh⟩ := bxD ab; obtain ⟨cm, cn, fh⟩ := Kd.R_slice aq.out; subst fh; obtain ⟨di, dj, dk, dl, dm, dn, dp, dq⟩ := bxD aa) | ((with_reducible refine gtC 71 ?_); refine xCb 30 Tryz.func71 (graftwoodref02_Cmp.calls k aj ap aA _ A5.out) fun w58 hb => ?_; replace ag := am (Kd.R_below (by (with_reducible repeat (first | apply Kd.R_alloc | apply Kd.R_drewN | apply Kd.R_drew)); exact (Kd.R_mono (Kd.R_far (p := ⟨ad, 3, none⟩) (Kd.R_far (p := ⟨ad, 2, none⟩) (Kd.R_far (p := ⟨ad, 1, none⟩) (Kd.R_far (p := ⟨ad, 0, none⟩) (Kd.R_types ag.out ab.out (by decide)) (fun _ hk => hk.2) (.string ap)) (fun _ hk => hk.2) (.string ar)) (fun _ hk => hk.2) (.string au)) (fun _ hk => hk.2) (.slice cm af.length cn)) (fun _ h_ => h_.1))) hb); replace aq := am (Kd.R_below (by (with_reducible repeat (first | apply Kd.R_alloc | apply Kd.R_drewN | apply Kd.R_drew)); exact (Kd.R_mono (Kd.R_far (p := ⟨ad, 3, none⟩) (Kd.R_far (p := ⟨ad, 2, none⟩) (Kd.R_far (p := ⟨ad, 1, none⟩) (Kd.R_far (p := ⟨ad, 0, none⟩) (Kd.R_types aq.out ab.out (by decide)) (fun _ hk => hk.2) (.string ap)) (fun _ hk => hk.2) (.string ar)) (fun _ hk => hk.2) (.string au)) (fun _ hk => hk.2) (.slice cm af.length cn)) (fun _ h_ => h_.1))) hb); replace aa := am (blk_below (g := ac) (o := .cells #[.string aj, .string ak, .string ao, .slice b9 ae.length b_] 98 (0, 0)) kBk hb); replace HB := am (sTx HB.out hb); replace ab := am (blk_below (g := ad) (o := .cells #[.string ap, .string ar, .string au, .slice cm af.length cn] 98 (0, 0)) kBk hb); obtain ⟨dr, dt, du, dv, dw, dx, dy, dz⟩ := bxD aa; obtain ⟨dA, dB, dC, dD, dE, dF, dG, dH⟩ := bxD ab) | ((with_reducible refine gtC 71 ?_); refine xCb 38 Tryz.func71 (graftwoodref02_Cmp.calls k ak ar ay _ A7.out) fun w61 hb => ?_; replace ag := am (rB ag.out hb); replace aq := am (rB aq.out hb); replace aa := am (bB aa.out hb); replace ab := am (bB ab.out hb); replace HB := am (sTx HB.out hb); obtain ⟨dI, dJ, dK, dL, dM, dN, dP, dQ⟩ := bxD aa; obtain ⟨dR, dS, dU, dV, dW, dX, dY, dZ⟩ := bxD ab) | ((with_reducible refine gtC 71 ?_); refine xCb 46 Tryz.func71 (graftwoodref02_Cmp.calls k ao au aw _ A9.out) fun w64 hb => ?_; replace ag := am (rB ag.out hb); replace aq := am (rB aq.out hb); replace aa := am (bB aa.out hb); replace ab := am (bB ab.out hb); replace HB := am (sTx HB.out hb)))
    go_ret
    exact ⟨rfF, eTx HB.out⟩
  ·have cv := beq_eq_false_iff_ne.mpr c8
   have cw := bne_iff_ne.mpr c8
   obtain rfl := smI H
   go_enter Tryz.func42, Tryz.ntmps42
   go_wp2_with (first | ((with_reducible refine gtC 70 ?_); refine xCl 18 Tryz.func70 (graftwoodref03_Split.calls k a0 aj ak ao ae cq _ A3.out) ?_; rintro e w65 ⟨cH, rfl, ho0, hb⟩; refine ⟨_, rfl, ?_⟩; have ag := am (Kd.R_lower ho0 (below_size (eTx HB.out))); replace HB := am (sTx HB.out hb)) | ((with_reducible refine gtD 5 ?_); refine xBx 5 98 #[.string (⟨#[]⟩ : ByteArray), .string (⟨#[]⟩ : ByteArray), .string (⟨#[]⟩ : ByteArray), .slice none 0 0] ?_; intro ac hg w66 hbox hb; replace ag := am (rB ag.out hb); have aa := am (hbox); have cd := am ((gTx hg HB.out)); have ce := am ((gTx hg HB.out)); replace HB := am (sTx HB.out hb); clear hb hbox hg; obtain ⟨d0, d1, d2, d3, d4, d5, d6, d7⟩ := bxD aa; obtain ⟨cb, cc, fi⟩ := Kd.R_slice ag.out; subst fi) | ((with_reducible refine gtC 70 ?_); refine xCl 23 Tryz.func70 (graftwoodref03_Split.calls k a1 ap ar au af cr _ A4.out) ?_; rintro e w69 ⟨cI, rfl, ho0, hb⟩; refine ⟨_, rfl, ?_⟩; have aq := am (Kd.R_lower (Kd.R_new' ho0 (Kd.R_lt (by (with_reducible repeat (first | apply Kd.R_alloc | apply Kd.R_drewN | apply Kd.R_drew)); exact (Kd.R_mono (Kd.R_far (p := ⟨ac, 3, none⟩) (Kd.R_far (p := ⟨ac, 2, none⟩) (Kd.R_far (p := ⟨ac, 1, none⟩) (Kd.R_far (p := ⟨ac, 0, none⟩) (Kd.R_types ag.out aa.out (by decide)) (fun _ hk => hk.2) (.string aj)) (fun _ hk => hk.2) (.string ak)) (fun _ hk => hk.2) (.string ao)) (fun _ hk => hk.2) (.slice cb ae.length cc)) (fun _ h_ => h_.1))))) (below_size (eTx HB.out))); replace ag := am (Kd.R_elder' (by (with_reducible repeat (first | apply Kd.R_alloc | apply Kd.R_drewN | apply Kd.R_drew)); exact (Kd.R_mono (Kd.R_far (p := ⟨ac, 3, none⟩) (Kd.R_far (p := ⟨ac, 2, none⟩) (Kd.R_far (p := ⟨ac, 1, none⟩) (Kd.R_far (p := ⟨ac, 0, none⟩) (Kd.R_types ag.out aa.out (by decide)) (fun _ hk => hk.2) (.string aj)) (fun _ hk => hk.2) (.string ak)) (fun _ hk => hk.2) (.string ao)) (fun _ hk => hk.2) (.slice cb ae.length cc)) (fun _ h_ => h_.1))) (Kd.R_base ho0) hb); replace HB := am (sTx HB.out hb); replace aa := am (blk_below (g := ac) (o := .cells #[.string aj, .string ak, .string ao, .slice cb ae.length cc] 98 (0, 0)) kBk hb)) | ((with_reducible refine gtD 7 ?_); refine xBx 7 98 #[.string (⟨#[]⟩ : ByteArray), .string (⟨#[]⟩ : ByteArray), .string (⟨#[]⟩ : ByteArray), .slice none 0 0] ?_; intro ad hg w70 hbox hb; replace ag := am (rB ag.out hb); replace aq := am (rB aq.out hb); have ab := am (hbox); have cf := am ((gTx hg HB.out)); have cg := am ((gTx hg HB.out)); have ah := am ((nT aa.out hg)); have ax := am ((mT aa.out hg)); replace aa := am (bB aa.out hb); replace HB := am (sTx HB.out hb); clear hb hbox hg; have fD := ax.out; have fE := ah.out; obtain ⟨d8, d9, d_, ea, eb, ec, ed, ee⟩ := bxD ab; obtain ⟨cy, cz, fj⟩ := Kd.R_slice aq.out; subst fj; obtain ⟨ef, eg, eh, ei, ej, ek, el, em⟩ := bxD aa) | ((with_reducible refine gtC 71 ?_); refine xCb 30 Tryz.func71 (graftwoodref02_Cmp.calls k aj ap aA _ A5.out) fun w75 hb => ?_; replace ag := am (Kd.R_below (by (with_reducible repeat (first | apply Kd.R_alloc | apply Kd.R_drewN | apply Kd.R_drew)); exact (Kd.R_mono (Kd.R_far (p := ⟨ad, 3, none⟩) (Kd.R_far (p := ⟨ad, 2, none⟩) (Kd.R_far (p := ⟨ad, 1, none⟩) (Kd.R_far (p := ⟨ad, 0, none⟩) (Kd.R_types ag.out ab.out (by decide)) (fun _ hk => hk.2) (.string ap)) (fun _ hk => hk.2) (.string ar)) (fun _ hk => hk.2) (.string au)) (fun _ hk => hk.2) (.slice cy af.length cz)) (fun _ h_ => h_.1))) hb); replace aq := am (Kd.R_below (by (with_reducible repeat (first | apply Kd.R_alloc | apply Kd.R_drewN | apply Kd.R_drew)); exact (Kd.R_mono (Kd.R_far (p := ⟨ad, 3, none⟩) (Kd.R_far (p := ⟨ad, 2, none⟩) (Kd.R_far (p := ⟨ad, 1, none⟩) (Kd.R_far (p := ⟨ad, 0, none⟩) (Kd.R_types aq.out ab.out (by decide)) (fun _ hk => hk.2) (.string ap)) (fun _ hk => hk.2) (.string ar)) (fun _ hk => hk.2) (.string au)) (fun _ hk => hk.2) (.slice cy af.length cz)) (fun _ h_ => h_.1))) hb); replace aa := am (blk_below (g := ac) (o := .cells #[.string aj, .string ak, .string ao, .slice cb ae.length cc] 98 (0, 0)) kBk hb); replace HB := am (sTx HB.out hb); replace ab := am (blk_below (g := ad) (o := .cells #[.string ap, .string ar, .string au, .slice cy af.length cz] 98 (0, 0)) kBk hb); obtain ⟨en, eo, ep, eq, er, es, et, eu⟩ := bxD aa; obtain ⟨ev, ew, ex, ey, ez, eA, eB, eC⟩ := bxD ab) | ((with_reducible refine gtC 71 ?_); refine xCb 38 Tryz.func71 (graftwoodref02_Cmp.calls k ak ar ay _ A7.out) fun w78 hb => ?_; replace ag := am (rB ag.out hb); replace aq := am (rB aq.out hb); replace aa := am (bB aa.out hb); replace ab := am (bB ab.out hb); replace HB := am (sTx HB.out hb)))
   go_ret
   exact ⟨rfF, eTx HB.out⟩
 ·have ct := beq_eq_false_iff_ne.mpr c6
  have cu := bne_iff_ne.mpr c6
  obtain rfl := smI H
  go_enter Tryz.func42, Tryz.ntmps42
  go_wp2_with (first | ((with_reducible refine gtC 70 ?_); refine xCl 18 Tryz.func70 (graftwoodref03_Split.calls k a0 aj ak ao ae cq _ A3.out) ?_; rintro e w79 ⟨cH, rfl, ho0, hb⟩; refine ⟨_, rfl, ?_⟩; have ag := am (Kd.R_lower ho0 (below_size (eTx HB.out))); replace HB := am (sTx HB.out hb)) | ((with_reducible refine gtD 5 ?_); refine xBx 5 98 #[.string (⟨#[]⟩ : ByteArray), .string (⟨#[]⟩ : ByteArray), .string (⟨#[]⟩ : ByteArray), .slice none 0 0] ?_; intro ac hg w80 hbox hb; replace ag := am (rB ag.out hb); have aa := am (hbox); have cd := am ((gTx hg HB.out)); have ce := am ((gTx hg HB.out)); replace HB := am (sTx HB.out hb); clear hb hbox hg; obtain ⟨eD, eE, eF, eG, eH, eI, eJ, eK⟩ := bxD aa; obtain ⟨co, cp, fk⟩ := Kd.R_slice ag.out; subst fk) | ((with_reducible refine gtC 70 ?_); refine xCl 23 Tryz.func70 (graftwoodref03_Split.calls k a1 ap ar au af cr _ A4.out) ?_; rintro e w83 ⟨cI, rfl, ho0, hb⟩; refine ⟨_, rfl, ?_⟩; have aq := am (Kd.R_lower (Kd.R_new' ho0 (Kd.R_lt (by (with_reducible repeat (first | apply Kd.R_alloc | apply Kd.R_drewN | apply Kd.R_drew)); exact (Kd.R_mono (Kd.R_far (p := ⟨ac, 3, none⟩) (Kd.R_far (p := ⟨ac, 2, none⟩) (Kd.R_far (p := ⟨ac, 1, none⟩) (Kd.R_far (p := ⟨ac, 0, none⟩) (Kd.R_types ag.out aa.out (by decide)) (fun _ hk => hk.2) (.string aj)) (fun _ hk => hk.2) (.string ak)) (fun _ hk => hk.2) (.string ao)) (fun _ hk => hk.2) (.slice co ae.length cp)) (fun _ h_ => h_.1))))) (below_size (eTx HB.out))); replace ag := am (Kd.R_elder' (by (with_reducible repeat (first | apply Kd.R_alloc | apply Kd.R_drewN | apply Kd.R_drew)); exact (Kd.R_mono (Kd.R_far (p := ⟨ac, 3, none⟩) (Kd.R_far (p := ⟨ac, 2, none⟩) (Kd.R_far (p := ⟨ac, 1, none⟩) (Kd.R_far (p := ⟨ac, 0, none⟩) (Kd.R_types ag.out aa.out (by decide)) (fun _ hk => hk.2) (.string aj)) (fun _ hk => hk.2) (.string ak)) (fun _ hk => hk.2) (.string ao)) (fun _ hk => hk.2) (.slice co ae.length cp)) (fun _ h_ => h_.1))) (Kd.R_base ho0) hb); replace HB := am (sTx HB.out hb); replace aa := am (blk_below (g := ac) (o := .cells #[.string aj, .string ak, .string ao, .slice co ae.length cp] 98 (0, 0)) kBk hb)) | ((with_reducible refine gtD 7 ?_); refine xBx 7 98 #[.string (⟨#[]⟩ : ByteArray), .string (⟨#[]⟩ : ByteArray), .string (⟨#[]⟩ : ByteArray), .slice none 0 0] ?_; intro ad hg w84 hbox hb; replace ag := am (rB ag.out hb); replace aq := am (rB aq.out hb); have ab := am (hbox); have cf := am ((gTx hg HB.out)); have cg := am ((gTx hg HB.out)); have ah := am ((nT aa.out hg)); have ax := am ((mT aa.out hg)); replace aa := am (bB aa.out hb); replace HB := am (sTx HB.out hb); clear hb hbox hg; have fF := ax.out; have fG := ah.out; obtain ⟨eL, eM, eN, eO, eP, eQ, eR, eS⟩ := bxD ab; obtain ⟨cK, cL, fl⟩ := Kd.R_slice aq.out; subst fl; obtain ⟨eV, eW, eX, eY, eZ, e0, e1, e2⟩ := bxD aa) | ((with_reducible refine gtC 71 ?_); refine xCb 30 Tryz.func71 (graftwoodref02_Cmp.calls k aj ap aA _ A5.out) fun w89 hb => ?_; replace ag := am (Kd.R_below (by (with_reducible repeat (first | apply Kd.R_alloc | apply Kd.R_drewN | apply Kd.R_drew)); exact (Kd.R_mono (Kd.R_far (p := ⟨ad, 3, none⟩) (Kd.R_far (p := ⟨ad, 2, none⟩) (Kd.R_far (p := ⟨ad, 1, none⟩) (Kd.R_far (p := ⟨ad, 0, none⟩) (Kd.R_types ag.out ab.out (by decide)) (fun _ hk => hk.2) (.string ap)) (fun _ hk => hk.2) (.string ar)) (fun _ hk => hk.2) (.string au)) (fun _ hk => hk.2) (.slice cK af.length cL)) (fun _ h_ => h_.1))) hb); replace aq := am (Kd.R_below (by (with_reducible repeat (first | apply Kd.R_alloc | apply Kd.R_drewN | apply Kd.R_drew)); exact (Kd.R_mono (Kd.R_far (p := ⟨ad, 3, none⟩) (Kd.R_far (p := ⟨ad, 2, none⟩) (Kd.R_far (p := ⟨ad, 1, none⟩) (Kd.R_far (p := ⟨ad, 0, none⟩) (Kd.R_types aq.out ab.out (by decide)) (fun _ hk => hk.2) (.string ap)) (fun _ hk => hk.2) (.string ar)) (fun _ hk => hk.2) (.string au)) (fun _ hk => hk.2) (.slice cK af.length cL)) (fun _ h_ => h_.1))) hb); replace aa := am (blk_below (g := ac) (o := .cells #[.string aj, .string ak, .string ao, .slice co ae.length cp] 98 (0, 0)) kBk hb); replace HB := am (sTx HB.out hb); replace ab := am (blk_below (g := ad) (o := .cells #[.string ap, .string ar, .string au, .slice cK af.length cL] 98 (0, 0)) kBk hb)))
  go_ret
  exact ⟨rfF, eTx HB.out⟩

/-! ### graftwoodref05_Less: function 62 -/
def graftwoodref05_Less.f (k : Nat) (a0_0 : ByteArray) (a0_1 : ByteArray) (a1_0 : ByteArray) (a1_1 : ByteArray) : Option (Bool) := (graftwoodref01_Cmp.f k a0_0 a1_0).bind fun aG => (if aG < 0 then (some true) else (if aG = 0 then ((graftwoodref03_Cmp.f k a0_1 a1_1).bind fun b8 => (some (decide (b8 < 0)))) else (some false)))
theorem graftwoodref05_Less.mono : ∀ a0 a1 a2 a3 k, LeO (graftwoodref05_Less.f k a0 a1 a2 a3) (graftwoodref05_Less.f (k + 1) a0 a1 a2 a3) := by
 intro a0 a1 a2 a3 k
 unfold graftwoodref05_Less.f
 repeat' first | (with_reducible first | apply graftwoodref01_Cmp.mono | apply graftwoodref03_Cmp.mono | apply LeO.refl | apply LeO.none | apply LeO.ite | refine LeO.bind ?_ (fun _ => ?_)) | apply graftwoodref01_Cmp.mono | apply graftwoodref03_Cmp.mono | exact LeO.none _ | refine LeO.ite ?_ ?_ | refine LeO.bind ?_ (fun _ => ?_)
theorem graftwoodref05_Less.calls (k : Nat) (a0_0 : ByteArray) (a0_1 : ByteArray) (a1_0 : ByteArray) (a1_1 : ByteArray) (r : Bool) (w : World) (h : graftwoodref05_Less.f k a0_0 a0_1 a1_0 a1_1 = some r) :
  Calls Tryz.prog 62 #[.agg #[.string a0_0, .string a0_1], .agg #[.string a1_0, .string a1_1]] w fun e w' => e = .returned (.bool r) ∧ Below w.heap.size w w' := by
 have hu55 := Tryz.underlying55
 have HB := am (Below.refl w.heap.size w)
 unfold graftwoodref05_Less.f at h; have H := h; clear h
 replace H := bnd H; obtain ⟨aG, A3, H⟩ := H
 replace H := ifP H; rcases H with ⟨c4, H⟩ | ⟨c4, H⟩
 ·have fm := decide_eq_true c4
  clear c4
  obtain rfl := smI H
  go_enter Tryz.func62, Tryz.ntmps62
  go_wp2_with (first | ((with_reducible refine gtD 2 ?_); refine xBx 2 55 #[.string a0_0, .string a0_1] ?_; intro aW hg w5 hbox hb; have av := am (hbox); have cC := am ((gTx hg HB.out)); have cD := am ((gTx hg HB.out)); replace HB := am (sTx HB.out hb); clear hb hbox hg) | ((with_reducible refine gtD 3 ?_); refine xBx 3 55 #[.string a1_0, .string a1_1] ?_; intro aX hg w6 hbox hb; have az := am (hbox); have cE := am ((gTx hg HB.out)); have cF := am ((gTx hg HB.out)); have aD := am ((nT av.out hg)); have aE := am ((mT av.out hg)); replace av := am (bB av.out hb); replace HB := am (sTx HB.out hb); clear hb hbox hg; have fL := aD.out; have fM := aE.out; obtain ⟨fn, fo, fp, fq⟩ := bxB av; obtain ⟨fr, fs, ft, fu⟩ := bxB az) | ((with_reducible refine gtC 47 ?_); refine xCz 10 Tryz.func47 (graftwoodref01_Cmp.calls k a0_0 a1_0 aG _ A3.out) fun nd => ?_))
  go_ret
  exact ⟨rfF, eTx HB.out⟩
 ·have fm := decide_eq_false c4
  clear c4
  replace H := ifP H; rcases H with ⟨c10, H⟩ | ⟨c10, H⟩
  ·have a6 := beq_iff_eq.mpr c10
   have a7 := bne_eq_false_iff_eq.mpr c10
   clear c10
   replace H := bnd H; obtain ⟨b8, A11, H⟩ := H
   obtain rfl := smI H
   go_enter Tryz.func62, Tryz.ntmps62
   go_wp2_with (first | ((with_reducible refine gtD 2 ?_); refine xBx 2 55 #[.string a0_0, .string a0_1] ?_; intro aW hg w12 hbox hb; have av := am (hbox); have cC := am ((gTx hg HB.out)); have cD := am ((gTx hg HB.out)); replace HB := am (sTx HB.out hb); clear hb hbox hg) | ((with_reducible refine gtD 3 ?_); refine xBx 3 55 #[.string a1_0, .string a1_1] ?_; intro aX hg w13 hbox hb; have az := am (hbox); have cE := am ((gTx hg HB.out)); have cF := am ((gTx hg HB.out)); have aD := am ((nT av.out hg)); have aE := am ((mT av.out hg)); replace av := am (bB av.out hb); replace HB := am (sTx HB.out hb); clear hb hbox hg; have fH := aD.out; have fI := aE.out; obtain ⟨e3, e4, e5, e6⟩ := bxB av; obtain ⟨e7, e8, e9, e_⟩ := bxB az) | ((with_reducible refine gtC 47 ?_); refine xCz 10 Tryz.func47 (graftwoodref01_Cmp.calls k a0_0 a1_0 aG _ A3.out) fun nd => ?_) | (go_at_call 42; (with_reducible refine (graftwoodref03_Cmp.calls k a0_1 a1_1 b8 _ A11.out).mono ?_); rintro e w17 ⟨rfl, hb⟩; replace av := am (bB av.out hb); replace az := am (bB az.out hb); replace HB := am (sTx HB.out hb)))
   go_ret
   exact ⟨rfF, eTx HB.out⟩
  ·have a6 := beq_eq_false_iff_ne.mpr c10
   have a7 := bne_iff_ne.mpr c10
   obtain rfl := smI H
   go_enter Tryz.func62, Tryz.ntmps62
   go_wp2_with (first | ((with_reducible refine gtD 2 ?_); refine xBx 2 55 #[.string a0_0, .string a0_1] ?_; intro aW hg w18 hbox hb; have av := am (hbox); have cC := am ((gTx hg HB.out)); have cD := am ((gTx hg HB.out)); replace HB := am (sTx HB.out hb); clear hb hbox hg) | ((with_reducible refine gtD 3 ?_); refine xBx 3 55 #[.string a1_0, .string a1_1] ?_; intro aX hg w19 hbox hb; have az := am (hbox); have cE := am ((gTx hg HB.out)); have cF := am ((gTx hg HB.out)); have aD := am ((nT av.out hg)); have aE := am ((mT av.out hg)); replace av := am (bB av.out hb); replace HB := am (sTx HB.out hb); clear hb hbox hg; have fJ := aD.out; have fK := aE.out; obtain ⟨aY, aZ, a4, a5⟩ := bxB av; obtain ⟨fa, fb, fc, fd⟩ := bxB az) | ((with_reducible refine gtC 47 ?_); refine xCz 10 Tryz.func47 (graftwoodref01_Cmp.calls k a0_0 a1_0 aG _ A3.out) fun nd => ?_))
   go_ret
   exact ⟨rfF, eTx HB.out⟩

end Go.Proofs.YtknmfmedklfepaaGreatDoor.P
