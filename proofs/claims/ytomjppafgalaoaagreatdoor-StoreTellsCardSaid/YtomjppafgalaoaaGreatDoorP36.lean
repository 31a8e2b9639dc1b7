-- half the indentation
import Derived.Test.YtomjppafgalaoaaGreatDoorSqz
import Derived.Test.YtomjppafgalaoaaGreatDoorP0
import Derived.Test.YtomjppafgalaoaaGreatDoorP29
namespace Go.Proofs.YtomjppafgalaoaaGreatDoor.P
open Go.RowKit Go.Proofs.YtomjppafgalaoaaGreatDoorW.PrintWords Go.Proofs.YtomjppafgalaoaaGreatDoorW.PrintLast Go.Proofs.YtomjppafgalaoaaGreatDoorW.PrintMore
attribute [local go_sem] max2_int min2_int max_two min_two max_three min_three max_four min_four
set_option linter.unusedVariables false
set_option linter.unusedSimpArgs false
set_option maxHeartbeats 8000000
set_option maxRecDepth 100000

/-! ### graftwoodref12_Put: function 15 -/
mutual
def graftwoodref12_Put.l0 : Nat → ByteArray → Int → List (S27) → List ByteArray → ByteArray → ByteArray → List (S27) → List ByteArray → Option ((List (S27)) × List ByteArray)
 | 0, _, _, _, _, _, _, _, _ => none
 | k + 1, x2, x8, av, aH, aM, aN, aI, aJ => if x8 < (av.length : Int) then (if 0 ≤ x8 then ((graftwoodref05_Less.f k ((rd_T27 av x8).f0) ((rd_T27 av x8).f1) aM aN).bind fun bC => (if bC = true then (if aI.length < 4398046511104 then (if x8 < (aH.length : Int) then (if aJ.length < 8796093022208 then (graftwoodref12_Put.l0 k x2 (wrap64 (x8 + 1)) av aH aM aN (aI ++ [(⟨(rd_T27 av x8).f0, (rd_T27 av x8).f1⟩ : S27)]) (aJ ++ [rdOf ByteArray.empty aH x8])) else (none)) else (none)) else (none)) else (graftwoodref12_Put.l0 k x2 (wrap64 (x8 + 1)) av aH aM aN aI aJ))) else (none)) else (if aI.length < 4398046511104 then (if aJ.length < 8796093022208 then (graftwoodref12_Put.l1 k 0 av aH aM aN (aI ++ [(⟨aM, aN⟩ : S27)]) (aJ ++ [x2])) else (none)) else (none))
def graftwoodref12_Put.l1 : Nat → Int → List (S27) → List ByteArray → ByteArray → ByteArray → List (S27) → List ByteArray → Option ((List (S27)) × List ByteArray)
 | 0, _, _, _, _, _, _, _ => none
 | k + 1, x9, av, aH, aM, aN, aI, aJ => if x9 < (av.length : Int) then (if 0 ≤ x9 then ((graftwoodref05_Less.f k aM aN ((rd_T27 av x9).f0) ((rd_T27 av x9).f1)).bind fun bD => (if bD = true then (if aI.length < 4398046511104 then (if x9 < (aH.length : Int) then (if aJ.length < 8796093022208 then (graftwoodref12_Put.l1 k (wrap64 (x9 + 1)) av aH aM aN (aI ++ [(⟨(rd_T27 av x9).f0, (rd_T27 av x9).f1⟩ : S27)]) (aJ ++ [rdOf ByteArray.empty aH x9])) else (none)) else (none)) else (none)) else (graftwoodref12_Put.l1 k (wrap64 (x9 + 1)) av aH aM aN aI aJ))) else (none)) else (some (aI, aJ))
end
def graftwoodref12_Put.f (k : Nat) (l0_0 : List (S27)) (l0_1 : List ByteArray) (a1_0 : ByteArray) (a1_1 : ByteArray) (a2 : ByteArray) : Option ((List (S27)) × List ByteArray) := graftwoodref12_Put.l0 k a2 0 l0_0 l0_1 a1_0 a1_1 ([] : List (S27)) ([] : List ByteArray)
theorem graftwoodref12_Put.mono_l : ∀ k, (∀ y0 y1 y2 y3 y4 y5 y6 y7, LeO (graftwoodref12_Put.l0 k y0 y1 y2 y3 y4 y5 y6 y7) (graftwoodref12_Put.l0 (k + 1) y0 y1 y2 y3 y4 y5 y6 y7)) ∧ (∀ y0 y1 y2 y3 y4 y5 y6, LeO (graftwoodref12_Put.l1 k y0 y1 y2 y3 y4 y5 y6) (graftwoodref12_Put.l1 (k + 1) y0 y1 y2 y3 y4 y5 y6))
 | 0 => ⟨fun _ _ _ _ _ _ _ _ r h => by simp [graftwoodref12_Put.l0] at h, fun _ _ _ _ _ _ _ r h => by simp [graftwoodref12_Put.l1] at h⟩
 | k + 1 => by
  obtain ⟨ih0, ih1⟩ := graftwoodref12_Put.mono_l k
  refine ⟨?_, ?_⟩
  ·intro y0 y1 y2 y3 y4 y5 y6 y7
   unfold graftwoodref12_Put.l0
   repeat' first | (with_reducible first | apply ih0 | apply ih1 | apply graftwoodref05_Less.mono | apply LeO.refl | apply LeO.none | apply LeO.ite | refine LeO.bind ?_ (fun _ => ?_)) | apply ih0 | apply ih1 | apply graftwoodref05_Less.mono | exact LeO.none _ | refine LeO.ite ?_ ?_ | refine LeO.bind ?_ (fun _ => ?_)
  ·intro y0 y1 y2 y3 y4 y5 y6
   unfold graftwoodref12_Put.l1
   repeat' first | (with_reducible first | apply ih0 | apply ih1 | apply graftwoodref05_Less.mono | apply LeO.refl | apply LeO.none | apply LeO.ite | refine LeO.bind ?_ (fun _ => ?_)) | apply ih0 | apply ih1 | apply graftwoodref05_Less.mono | exact LeO.none _ | refine LeO.ite ?_ ?_ | refine LeO.bind ?_ (fun _ => ?_)
theorem graftwoodref12_Put.mono : ∀ a0 a1 a2 a3 a4 k, LeO (graftwoodref12_Put.f k a0 a1 a2 a3 a4) (graftwoodref12_Put.f (k + 1) a0 a1 a2 a3 a4) := by
 intro a0 a1 a2 a3 a4 k
 obtain ⟨ih0, ih1⟩ := graftwoodref12_Put.mono_l k
 unfold graftwoodref12_Put.f
 repeat' first | (with_reducible first | apply ih0 | apply ih1 | apply graftwoodref05_Less.mono | apply LeO.refl | apply LeO.none | apply LeO.ite | refine LeO.bind ?_ (fun _ => ?_)) | apply ih0 | apply ih1 | apply graftwoodref05_Less.mono | exact LeO.none _ | refine LeO.ite ?_ ?_ | refine LeO.bind ?_ (fun _ => ?_)
def graftwoodref12_Put.T6 : Bool × List (List Nat × List Nat) := (true, [([], []), ([0], [0]), ([], []), ([2], [2]), ([], []), ([3, 4], [3, 4]), ([5], [5]), ([6], [6]), ([1, 7], [1, 7]), ([0, 1, 2, 3, 4, 5, 6, 7, 8], []), ([9, 8, 8, 0, 1, 2, 3, 4, 5, 6, 7, 8], [8, 9])])
def graftwoodref12_Put.B6 : List Nat := [0, 1, 0, 4, 0, 28, 60, 124, 255, 511, 1023]
theorem graftwoodref12_Put.tab6 : rtab .any (opsOf Tryz.f15 6) = graftwoodref12_Put.T6 := by kernel_rfl
theorem graftwoodref12_Put.bits6 : waitsOk graftwoodref12_Put.T6.2 graftwoodref12_Put.B6 = true := by kernel_rfl
def graftwoodref12_Put.T7 : Bool × List (List Nat × List Nat) := (true, [([], []), ([0], [0]), ([], []), ([2], [2]), ([], []), ([3, 4], [3, 4]), ([5], [5]), ([6], [6]), ([1, 7], [1, 7]), ([0, 1, 2, 3, 4, 5, 6, 7, 8], []), ([9, 8, 8, 0, 1, 2, 3, 4, 5, 6, 7, 8], [8, 9])])
def graftwoodref12_Put.B7 : List Nat := [0, 1, 0, 4, 0, 28, 60, 124, 255, 511, 1023]
theorem graftwoodref12_Put.tab7 : rtab .any (opsOf Tryz.f15 7) = graftwoodref12_Put.T7 := by kernel_rfl
theorem graftwoodref12_Put.bits7 : waitsOk graftwoodref12_Put.T7.2 graftwoodref12_Put.B7 = true := by kernel_rfl
def graftwoodref12_Put.T14 : Bool × List (List Nat × List Nat) := (true, [([], []), ([0], [0]), ([], []), ([2], [2]), ([], []), ([3, 4], [3, 4]), ([5], [5]), ([6], [6]), ([1, 7], [1, 7]), ([0, 1, 2, 3, 4, 5, 6, 7, 8], []), ([9, 8, 8, 0, 1, 2, 3, 4, 5, 6, 7, 8], [8, 9])])
def graftwoodref12_Put.B14 : List Nat := [0, 1, 0, 4, 0, 28, 60, 124, 255, 511, 1023]
theorem graftwoodref12_Put.tab14 : rtab .any (opsOf Tryz.f15 14) = graftwoodref12_Put.T14 := by kernel_rfl
theorem graftwoodref12_Put.bits14 : waitsOk graftwoodref12_Put.T14.2 graftwoodref12_Put.B14 = true := by kernel_rfl
def graftwoodref12_Put.T15 : Bool × List (List Nat × List Nat) := (true, [([], []), ([0], [0]), ([], []), ([2], [2]), ([], []), ([3, 4], [3, 4]), ([5], [5]), ([6], [6]), ([1, 7], [1, 7]), ([0, 1, 2, 3, 4, 5, 6, 7, 8], []), ([9, 8, 8, 0, 1, 2, 3, 4, 5, 6, 7, 8], [8, 9])])
def graftwoodref12_Put.B15 : List Nat := [0, 1, 0, 4, 0, 28, 60, 124, 255, 511, 1023]
theorem graftwoodref12_Put.tab15 : rtab .any (opsOf Tryz.f15 15) = graftwoodref12_Put.T15 := by kernel_rfl
theorem graftwoodref12_Put.bits15 : waitsOk graftwoodref12_Put.T15.2 graftwoodref12_Put.B15 = true := by kernel_rfl
theorem graftwoodref12_Put.calls (k : Nat) (bh : Option Addr) (aC : Nat) (l0_0 : List (S27)) (aW : Option Addr) (aD : Nat) (l0_1 : List ByteArray) (a1_0 : ByteArray) (a1_1 : ByteArray) (a2 : ByteArray) (r1 : List (S27)) (r2 : List ByteArray) (w : World) (hr0_0 : Kd.C k27 w bh l0_0.length l0_0) (hc0_0 : l0_0.length ≤ aC) (hr0_1 : Kd.C Kd.string w aW l0_1.length l0_1) (hc0_1 : l0_1.length ≤ aD) (h : graftwoodref12_Put.f k l0_0 l0_1 a1_0 a1_1 a2 = some (r1, r2)) :
  Calls Tryz.prog 15 #[.agg #[.slice bh l0_0.length aC, .slice aW l0_1.length aD], .agg #[.string a1_0, .string a1_1], .string a2] w fun e w' => ∃ v0_ v1_ : Value, e = .returned (.agg #[v0_, v1_]) ∧ Kd.R k27 27 w' w.heap.size (fun _ => True) v0_ r1 ∧ Kd.R Kd.string 9 w' w.heap.size (fun _ => True) v1_ r2 ∧ Below w.heap.size w w' := by
 have hu25 := Tryz.underlying25
 have hu27 := Tryz.underlying27
 have bj := Aside0.mk hr0_0
 have dr := Aside0.mk hc0_0
 clear hr0_0 hc0_0
 have b_ := Aside0.mk hr0_1
 have dt := Aside0.mk hc0_1
 clear hr0_1 hc0_1
 have HB := am (Below.refl w.heap.size w)
 unfold graftwoodref12_Put.f at h; have H := h; clear h
 have H' := Aside0.mk H
 clear H
 go_enter Tryz.func15, Tryz.ntmps15
 go_wp2_with (first | ((with_reducible refine gtD 3 ?_); refine xBx 3 25 #[.slice bh l0_0.length aC, .slice aW l0_1.length aD] ?_; intro ap hg w4 hbox hb; have ab := am (hbox); have du := am ((gTx hg HB.out)); have dv := am ((gTx hg HB.out)); replace HB := am (sTx HB.out hb); clear hb hbox hg) | ((with_reducible refine gtD 4 ?_); refine xBx 4 27 #[.string a1_0, .string a1_1] ?_; intro au hg w5 hbox hb; have ae := am (hbox); have dw := am ((gTx hg HB.out)); have dx := am ((gTx hg HB.out)); have aQ := am ((nT ab.out hg)); have aR := am ((mT ab.out hg)); replace ab := am (bB ab.out hb); replace HB := am (sTx HB.out hb); clear hb hbox hg) | ((with_reducible refine gtD 6 ?_); refine xBx 6 25 #[.slice none 0 0, .slice none 0 0] ?_; intro aK hg w6 hbox hb; have af := am (hbox); have dy := am ((gTx hg HB.out)); have dz := am ((gTx hg HB.out)); have aU := am ((nT ab.out hg)); have aV := am ((mT ab.out hg)); have bk := am ((nT ae.out hg)); have bl := am ((mT ae.out hg)); replace ab := am (bB ab.out hb); replace ae := am (bB ae.out hb); replace HB := am (sTx HB.out hb); clear hb hbox hg) | ((with_reducible refine gtD 7 ?_); refine xBx 7 25 #[.slice none 0 0, .slice none 0 0] ?_; intro ag hg w7 hbox hb; have ac := am (hbox); have dA := am ((gTx hg HB.out)); have dB := am ((gTx hg HB.out)); have ak := am ((nT ab.out hg)); have aw := am ((mT ab.out hg)); have aq := am ((nT ae.out hg)); have aE := am ((mT ae.out hg)); have ar := am ((nT af.out hg)); have aG := am ((mT af.out hg)); replace ab := am (bB ab.out hb); replace ae := am (bB ae.out hb); replace af := am (bB af.out hb); replace HB := am (sTx HB.out hb); clear hb hbox hg; have ez := aw.out; have eA := ak.out; have eB := aE.out; have eC := aq.out; have dC := aG.out; have dD := ar.out; obtain ⟨bE, bF, bG, bH⟩ := bxB ac))
 go_loopg [8] k (fun kq v8 w' => ∃ (ah : Int) (ao : List (S27)) (ai : List ByteArray) (u453000 : Value) (u453001 : Value), v8 = .int .i64 ah ∧ Aside0 (graftwoodref12_Put.l0 kq a2 ah l0_0 l0_1 a1_0 a1_1 ao ai = some (r1, r2)) ∧ Aside0 (kq ≤ k) ∧ Aside0 (Kd.R k27 27 w' w.heap.size (fun k_ => k_ ≠ au) u453000 ao) ∧ Aside0 (Kd.R Kd.string 9 w' w.heap.size (fun _ => True) u453001 ai) ∧ Aside0 (w'.heap[ap]? = some (.cells #[(.slice bh l0_0.length aC), (.slice aW l0_1.length aD)] 25 (0, 0))) ∧ Aside0 (w'.heap[au]? = some (.cells #[.string a1_0, .string a1_1] 27 (0, 0))) ∧ Aside0 (w'.heap[aK]? = some (.cells #[(.slice none 0 0), (.slice none 0 0)] 25 (0, 0))) ∧ Aside0 (w'.heap[ag]? = some (.cells #[u453000, u453001] 25 (0, 0))) ∧ Aside0 (Below w.heap.size w w'))
 case atStart => exact ⟨(0), (([] : List (S27))), (([] : List ByteArray)), (.slice none 0 0), (.slice none 0 0), rfG, H', ⟨Nat.le_refl _⟩, ⟨rfM⟩, ⟨rfM⟩, ⟨kBk⟩, ⟨kBk⟩, ⟨kBk⟩, ⟨kBk⟩, ⟨eTx HB.out⟩⟩
 case round =>
  clear H'
  obtain ⟨ah, ao, ai, u453000, u453001, rfl, HA, HK1, ad, aa, ab, ae, af, ac, HB⟩ := hrel
  cases gk with
  | zero => exact absurd HA.out (by simp [graftwoodref12_Put.l0])
  | succ k1 =>
   have H := HA.out
   clear HA
   simp only [graftwoodref12_Put.l0] at H
   replace H := ifP H; rcases H with ⟨c12, H⟩ | ⟨c12, H⟩
   ·have ca := decide_eq_true c12
    clear c12
    replace H := ifN H; obtain ⟨c13, H⟩ := H
    have dE := decide_eq_true c13
    clear c13
    replace H := bnd H; obtain ⟨bC, A14, H⟩ := H
    replace H := ifB H; rcases H with ⟨rfl, H⟩ | ⟨rfl, H⟩
    ·replace H := ifN H; obtain ⟨c16, H⟩ := H
     have LMc16 := Aside0.mk c16
     clear c16
     obtain ⟨aX, bm⟩ : ∃ y_ : List (S27), y_ = (ao ++ [(⟨(rd_T27 l0_0 ah).f0, (rd_T27 l0_0 ah).f1⟩ : S27)]) := ⟨_, rfl⟩
     replace H : (if ah < (l0_1.length : Int) then (if ai.length < 8796093022208 then (graftwoodref12_Put.l0 k1 a2 (wrap64 (ah + 1)) l0_0 l0_1 a1_0 a1_1 aX (ai ++ [rdOf ByteArray.empty l0_1 ah])) else (none)) else (none)) = some (r1, r2) := by first | (rw [bm]; with_reducible exact H) | (have H2_ := (Option.bind_some _ _).symm.trans H; rw [bm]; with_reducible exact H2_) | (have H2_ := (Option.bind_some _ _).symm.trans H; with_reducible exact H2_) | with_reducible exact H | (rw [bm]; exact H) | exact H
     have Ny456 := Aside0.mk bm
     clear bm
     replace H := ifN H; obtain ⟨c17, H⟩ := H
     have dF := decide_eq_true c17
     clear c17
     replace H := ifN H; obtain ⟨c18, H⟩ := H
     have LMc18 := Aside0.mk c18
     clear c18
     obtain ⟨bw, bo⟩ : ∃ y_ : List ByteArray, y_ = (ai ++ [rdOf ByteArray.empty l0_1 ah]) := ⟨_, rfl⟩
     replace H : (graftwoodref12_Put.l0 k1 a2 (wrap64 (ah + 1)) l0_0 l0_1 a1_0 a1_1 aX bw) = some (r1, r2) := by first | (rw [bo]; with_reducible exact H) | (have H2_ := (Option.bind_some _ _).symm.trans H; rw [bo]; with_reducible exact H2_) | (have H2_ := (Option.bind_some _ _).symm.trans H; with_reducible exact H2_) | with_reducible exact H | (rw [bo]; exact H) | exact H
     have Ny460 := Aside0.mk bo
     clear bo
     have H' := Aside0.mk H
     clear H
     have dG := aQ.out
     have dH := aR.out
     have dI := aU.out
     have dJ := aV.out
     have dK := ak.out
     have dL := aw.out
     obtain ⟨cu, cv, cw, cx⟩ := bxB ab
     try go_wp2
     replace ad := am (Kd.R_drew ad.out)
     replace aa := am (Kd.R_drew aa.out)
     replace ab := am (blk_drew ab.out)
     replace ae := am (blk_drew ae.out)
     replace af := am (blk_drew af.out)
     replace ac := am (blk_drew ac.out)
     replace HB := am (below_drew1 HB.out)
     have p453 : 0 ≤ (ah : Int) := of_decide_eq_true rfA
     have q453 : ah < (l0_0.length : Int) := of_decide_eq_true rfA
     obtain ⟨ad453, e453, ax, ay⟩ := at_T27 bj.out ah p453 q453
     have hw453_1 := ay
     have hw453_0 := ax
     cases e453
     replace ax := (HB.out.cell (World.block_lt_of_cell? w _ ax)).trans ax
     replace ay := (HB.out.cell (World.block_lt_of_cell? w _ ay)).trans ay
     replace p453 := eq_true p453
     replace q453 := eq_true q453
     refine start_ (n := 7) (S := fun w' => w'.cell? ⟨ap, 0, none⟩ = some (.slice (some ad453) l0_0.length aC) ∧ w'.cell? ⟨ap, 1, none⟩ = some (.slice aW l0_1.length aD) ∧ w'.cell? ⟨au, 0, none⟩ = some (.string a1_0) ∧ w'.cell? ⟨au, 1, none⟩ = some (.string a1_1) ∧ w'.cell? (ad453.add ((ah).toNat * 2)) = some (.string ((rd_T27 l0_0 ah).f0)) ∧ w'.cell? ⟨(ad453.add ((ah).toNat * 2)).block, (ad453.add ((ah).toNat * 2)).off + 1, none⟩ = some (.string ((rd_T27 l0_0 ah).f1))) (ds := []) (bA 7 0) rfK rfl rfK ⟨cT ab 0, cT ab 1, cT ae 0, cT ae 1, ((HB.out.cell (World.block_lt_of_cell? w _ hw453_0)).trans hw453_0), ((HB.out.cell (World.block_lt_of_cell? w _ hw453_1)).trans hw453_1)⟩ (fun hHeld => ?_)
     generalize wr.drew = w23 at ad aa ab ae af ac HB ax ay hHeld ⊢
     refine pure_ (i := 0) (N := some 18) (v := ?_) (a' := ?_) (bA 7 1) rfl rfl rfK (fun _ _ _ h => h) (Or.inl ⟨by rfl, ?_⟩) ?_ ?_
     rotate_left
     ·intro w'
      go_simp
      with_reducible rfl
     rotate_left
     ·simp only [pS]
      rfl
     refine pure_ (i := 2) (N := some 20) (v := ?_) (a' := ?_) (bA 7 5) rfl rfl rfK (fun _ _ _ h => h) (Or.inl ⟨by rfl, ?_⟩) ?_ ?_
     rotate_left
     ·intro w'
      go_simp
      with_reducible rfl
     rotate_left
     ·simp only [pS]
      rfl
     refine take_ (i := 1) (N := some 19) (v := ?_) (a' := ?_) (bA 7 7) rfl rfl rfK (fun _ _ _ h => h) (Or.inl ⟨by rfl, ?_⟩) hHeld ?_ ?_
     rotate_left
     ·rintro w' ⟨s0, s1, s2, s3, s4, s5⟩
      go_simp
      with_reducible rfl
     rotate_left
     ·simp only [pS]
      rfl
     refine pure_ (i := 3) (N := some 21) (v := ?_) (a' := ?_) (bA 7 15) rfl rfl rfK (fun _ _ _ h => h) (Or.inl ⟨by rfl, ?_⟩) ?_ ?_
     rotate_left
     ·intro w'
      go_simp
      with_reducible rfl
     rotate_left
     ·simp only [pS]
      rfl
     refine take_ (i := 4) (N := some 22) (v := ?_) (a' := ?_) (bA 7 31) rfl rfl rfK (fun _ _ _ h => h) (Or.inl ⟨by rfl, ?_⟩) hHeld ?_ ?_
     rotate_left
     ·rintro w' ⟨s0, s1, s2, s3, s4, s5⟩
      go_simp
      with_reducible rfl
     rotate_left
     ·simp only [pS]
      rfl
     refine take_ (i := 5) (N := some 23) (v := ?_) (a' := ?_) (bA 7 63) rfl rfl rfK (fun _ _ _ h => h) (Or.inl ⟨by rfl, ?_⟩) hHeld ?_ ?_
     rotate_left
     ·rintro w' ⟨s0, s1, s2, s3, s4, s5⟩
      go_simp
      with_reducible rfl
     rotate_left
     ·simp only [pS]
      rfl
     refine one_ (i := 6) (N := some 24) (bA 7 127) rfl rfl rfK (by decide) (fun K hK => ?_)
     refine gS Tryz.func35 #[.agg #[.string ((rd_T27 l0_0 ah).f0), .string ((rd_T27 l0_0 ah).f1)], .agg #[.string a1_0, .string a1_1]] ?_
     with_reducible refine (graftwoodref05_Less.calls k1 ((rd_T27 l0_0 ah).f0) ((rd_T27 l0_0 ah).f1) a1_0 a1_1 true _ A14.out).mono ?_
     rintro e w24 ⟨rfl, hb⟩
     refine ⟨_, rfl, ?_⟩
     replace ad := am (rB ad.out hb)
     replace aa := am (rB aa.out hb)
     replace ab := am (bB ab.out hb)
     replace ae := am (bB ae.out hb)
     replace af := am (bB af.out hb)
     replace ac := am (bB ac.out hb)
     replace HB := am (sTx HB.out hb)
     refine hK.out _ _ ⟨cT ab 0, cT ab 1, cT ae 0, cT ae 1, ((HB.out.cell (World.block_lt_of_cell? w _ hw453_0)).trans hw453_0), ((HB.out.cell (World.block_lt_of_cell? w _ hw453_1)).trans hw453_1)⟩ (fun hHeld => ?_)
     clear hK K
     refine mN 24 ?_
     refine done_ rfK ?_
     try go_wp2
     replace ad := am (Kd.R_drew ad.out)
     replace aa := am (Kd.R_drew aa.out)
     replace ab := am (blk_drew ab.out)
     replace ae := am (blk_drew ae.out)
     replace af := am (blk_drew af.out)
     replace ac := am (blk_drew ac.out)
     replace HB := am (below_drew1 HB.out)
     have p455 : 0 ≤ (ah : Int) := of_decide_eq_true rfA
     have q455 : ah < (l0_0.length : Int) := of_decide_eq_true rfA
     obtain ⟨ad455, e455, aZ, a5⟩ := at_T27 bj.out ah p455 q455
     have hw455_1 := a5
     have hw455_0 := aZ
     obtain rfl : ad453 = ad455 := (by injection e455)
     replace aZ := (HB.out.cell (World.block_lt_of_cell? w _ aZ)).trans aZ
     replace a5 := (HB.out.cell (World.block_lt_of_cell? w _ a5)).trans a5
     replace p455 := eq_true p455
     replace q455 := eq_true q455
     refine start_ (n := 11) (S := fun w' => w'.cell? ⟨ag, 0, none⟩ = some (u453000) ∧ w'.cell? ⟨ag, 1, none⟩ = some (u453001) ∧ w'.cell? ⟨ap, 0, none⟩ = some (.slice (some ad453) l0_0.length aC) ∧ w'.cell? ⟨ap, 1, none⟩ = some (.slice aW l0_1.length aD) ∧ w'.cell? (ad453.add ((ah).toNat * 2)) = some (.string ((rd_T27 l0_0 ah).f0)) ∧ w'.cell? ⟨(ad453.add ((ah).toNat * 2)).block, (ad453.add ((ah).toNat * 2)).off + 1, none⟩ = some (.string ((rd_T27 l0_0 ah).f1))) (ds := [10]) (bA 11 0) rfK rfl rfK ⟨cT ac 0, cT ac 1, cT ab 0, cT ab 1, ((HB.out.cell (World.block_lt_of_cell? w _ hw455_0)).trans hw455_0), ((HB.out.cell (World.block_lt_of_cell? w _ hw455_1)).trans hw455_1)⟩ (fun hHeld => ?_); refine with_tabW graftwoodref12_Put.tab6 graftwoodref12_Put.bits6 (fun HT_ HW_ => ?_)
     generalize w24.drew = w25 at ad aa ab ae af ac HB aZ a5 hHeld ⊢
     refine pT 0 25 (bA 11 1) HT_.out ?_
     refine pT 2 27 (bA 11 5) HT_.out ?_
     refine pT 4 29 (bA 11 21) HT_.out ?_
     refine tT 1 26 (bA 11 23) HT_.out HW_.out hHeld ?_ (hy := by rintro w' ⟨s0, s1, s2, s3, s4, s5⟩; go_simp; with_reducible rfl)
     refine tT 3 28 (bA 11 31) HT_.out HW_.out hHeld ?_ (hy := by rintro w' ⟨s0, s1, s2, s3, s4, s5⟩; go_simp; with_reducible rfl)
     refine pT 5 30 (bA 11 63) HT_.out ?_
     refine tT 6 31 (bA 11 127) HT_.out HW_.out hHeld ?_ (hy := by rintro w' ⟨s0, s1, s2, s3, s4, s5⟩; go_simp; with_reducible rfl)
     refine oT 7 (bA 11 255) HT_.out fun K hK => ?_
     refine value_ (w1 := ?_) (v := ?_) (by rfl) rfl ?_ ?_
     rotate_left 2
     ·go_simp
      constructor
      ·rfl
      ·rfl
     refine hK.out _ _ ⟨(blk_cell (blk_alloc ac.out _) 0).trans rfl, (blk_cell (blk_alloc ac.out _) 1).trans rfl, (blk_cell (blk_alloc ab.out _) 0).trans rfl, (blk_cell (blk_alloc ab.out _) 1).trans rfl, (World.cell?_alloc_lt _ _ _ (World.block_lt_of_cell? _ _ (((HB.out.cell (World.block_lt_of_cell? w _ hw455_0)).trans hw455_0)))).trans (((HB.out.cell (World.block_lt_of_cell? w _ hw455_0)).trans hw455_0)), (World.cell?_alloc_lt _ _ _ (World.block_lt_of_cell? _ _ (((HB.out.cell (World.block_lt_of_cell? w _ hw455_1)).trans hw455_1)))).trans (((HB.out.cell (World.block_lt_of_cell? w _ hw455_1)).trans hw455_1))⟩ (fun hHeld => ?_)
     clear hK K
     refine mN 32 ?_
     refine oT 8 (bA 11 511) HT_.out fun K hK => ?_
     refine Kd.R_append_step k27 (w0 := w) w.heap.size (by rfl) (.tmp 26) (.tmp 32) 22 27 (.agg #[(.string ⟨#[]⟩), (.string ⟨#[]⟩)]) 32 rfl Tryz.underlying22 info27 rfl (by decide) (by omega) u453000 ao (⟨(rd_T27 l0_0 ah).f0, (rd_T27 l0_0 ah).f1⟩ : S27) [.string ((rd_T27 l0_0 ah).f0), .string ((rd_T27 l0_0 ah).f1)] (fun k_ => k_ ≠ au) (fun _ => False) rfl rfl ?aP (fun _ hk => hk.elim) ?aF ?aO ?aB ?aS ?aL ?_
     (case aP => exact k27_mkM _ _ _ (⟨(rd_T27 l0_0 ah).f0, (rd_T27 l0_0 ah).f1⟩ : S27))
     (case aB => exact (eTx HB.out))
     (case aF => exact (fun k_ hk => Kd.freshB (g := au) (o := .cells #[.string a1_0, .string a1_1] 27 (0, 0)) (bT ae.out) k_ hk))
     (case aO => exact (rT ad.out))
     (case aS => exact (below_size (eTx HB.out)))
     (case aL => have := LMc16.out; omega)
     intro eD w26 ho hb hg hat
     rw [← Ny456.out] at ho
     replace aa := am (Kd.R_over' (rT aa.out) (Kd.R_typed (rT ad.out)) (by decide) hg)
     replace ab := am (blk_grown (g := ap) (o := .cells #[.slice (some ad453) l0_0.length aC, .slice aW l0_1.length aD] 25 (0, 0)) (bT ab.out) hg (Kd.R_ne ad.out ab.out (by decide)))
     replace ae := am (blk_grown (g := au) (o := .cells #[.string a1_0, .string a1_1] 27 (0, 0)) (bT ae.out) hg (Kd.R_away ad.out (fun _ hk => hk)))
     replace af := am (blk_grown (g := aK) (o := .cells #[.slice none 0 0, .slice none 0 0] 25 (0, 0)) (bT af.out) hg (Kd.R_ne ad.out af.out (by decide)))
     replace ac := am (blk_grown (g := ag) (o := .cells #[u453000, u453001] 25 (0, 0)) (bT ac.out) hg (Kd.R_ne ad.out ac.out (by decide)))
     replace HB := am (hb)
     have bb := am (ho)
     clear ad ho hb hg hat
     obtain ⟨a7, a8, cn⟩ := Kd.R_slice bb.out
     (first | subst cn | (injection cn with f1_ f2_ f3_; have f4_ := f1_.symm; have f5_ := f3_.symm; clear f1_ f2_ f3_; subst f4_; subst f5_))
     refine hK.out _ _ ⟨cT ac 0, cT ac 1, cT ab 0, cT ab 1, ((HB.out.cell (World.block_lt_of_cell? w _ hw455_0)).trans hw455_0), ((HB.out.cell (World.block_lt_of_cell? w _ hw455_1)).trans hw455_1)⟩ (fun hHeld => ?_)
     clear hK K
     refine mN 33 ?_
     refine pT 9 34 (bA 11 1023) HT_.out ?_
     refine last_ (i := 10) (N := none) (bA 11 2047) rfl rfl (one_of HT_.out rfK) (by decide) (fun K hK => ?_)
     obtain ⟨eE, dM⟩ := bxA ac
     have cy := ak.out
     have cz := aq.out
     have cA := ar.out
     have cB := aw.out
     have cC := aE.out
     have cD := aG.out
     refine skip_ (w1 := ?_) (by rfl) rfl ?_ ?_
     rotate_left
     ·go_simp
      rfl
     refine hK.out _ _ ?_
     clear hK K
     refine done_ (done_of HT_.out rfK) ?_
     try go_wp2
     obtain ⟨w29, hW_⟩ : ∃ W_, (w26.setCell ⟨ag, 0, none⟩ (.slice a7 aX.length a8)) = W_ := ⟨_, rfl⟩
     have n0_ : Aside0 (Kd.R Kd.string 9 w29 w.heap.size (fun _ => True) u453001 ai) := ⟨by rw [← hW_]; (with_reducible repeat (first | apply Kd.R_alloc | apply Kd.R_drewN | apply Kd.R_drew)); exact Kd.R_mono (Kd.R_far (p := ⟨ag, 0, none⟩) (Kd.R_types aa.out ac.out (by decide)) (fun _ hk => hk.2) (.slice a7 aX.length a8)) (fun _ hk => trivial)⟩
     have n1_ : Aside0 (Kd.R k27 27 w29 w.heap.size (fun k_ => k_ ≠ au) (.slice a7 aX.length a8) aX) := ⟨by rw [← hW_]; (with_reducible repeat (first | apply Kd.R_alloc | apply Kd.R_drewN | apply Kd.R_drew)); exact Kd.R_mono (Kd.R_far (p := ⟨ag, 0, none⟩) (Kd.R_types bb.out ac.out (by decide)) (fun _ hk => hk.2) (.slice a7 aX.length a8)) (fun _ hk => hk.1)⟩
     have n2_ : Aside0 (w29.heap[ap]? = some (.cells #[.slice (some ad453) l0_0.length aC, .slice aW l0_1.length aD] 25 (0, 0))) := ⟨by rw [← hW_]; exact kBk⟩
     have n3_ : Aside0 (w29.heap[au]? = some (.cells #[.string a1_0, .string a1_1] 27 (0, 0))) := ⟨by rw [← hW_]; exact kBk⟩
     have n4_ : Aside0 (w29.heap[aK]? = some (.cells #[.slice none 0 0, .slice none 0 0] 25 (0, 0))) := ⟨by rw [← hW_]; exact kBk⟩
     have n5_ : Aside0 (w29.heap[ag]? = some (.cells #[.slice a7 aX.length a8, u453001] 25 (0, 0))) := ⟨by rw [← hW_]; exact kBk⟩
     have n6_ : Aside0 (Below w.heap.size w w29) := ⟨by rw [← hW_]; exact eTx HB.out⟩
     rw [hW_]
     clear hW_
     have aa := n0_
     have bb := n1_
     have ab := n2_
     have ae := n3_
     have af := n4_
     have ac := n5_
     have HB := n6_
     clear n0_ n1_ n2_ n3_ n4_ n5_ n6_
     replace aa := am (Kd.R_drew aa.out)
     replace bb := am (Kd.R_drew bb.out)
     replace ab := am (blk_drew ab.out)
     replace ae := am (blk_drew ae.out)
     replace af := am (blk_drew af.out)
     replace ac := am (blk_drew ac.out)
     replace HB := am (below_drew1 HB.out)
     have p459 : 0 ≤ (ah : Int) := of_decide_eq_true rfA
     have q459 : ah < (l0_1.length : Int) := of_decide_eq_true rfA
     obtain ⟨ad459, e459, a6⟩ := Kd.at_string b_.out ah p459 q459
     have hw459_0 := a6
     cases e459
     replace a6 := (HB.out.cell (World.block_lt_of_cell? w _ a6)).trans a6
     replace p459 := eq_true p459
     replace q459 := eq_true q459
     refine start_ (n := 11) (S := fun w' => w'.cell? ⟨ag, 0, none⟩ = some (.slice a7 aX.length a8) ∧ w'.cell? ⟨ag, 1, none⟩ = some (u453001) ∧ w'.cell? ⟨ap, 0, none⟩ = some (.slice (some ad453) l0_0.length aC) ∧ w'.cell? ⟨ap, 1, none⟩ = some (.slice (some ad459) l0_1.length aD) ∧ w'.cell? (ad459.add (ah).toNat) = some (.string (rdOf ByteArray.empty l0_1 ah))) (ds := [10]) (bA 11 0) rfK rfl rfK ⟨cT ac 0, cT ac 1, cT ab 0, cT ab 1, ((HB.out.cell (World.block_lt_of_cell? w _ hw459_0)).trans hw459_0)⟩ (fun hHeld => ?_); refine with_tabW graftwoodref12_Put.tab7 graftwoodref12_Put.bits7 (fun HT_ HW_ => ?_)
     generalize w29.drew = w30 at aa bb ab ae af ac HB a6 hHeld ⊢
     refine pT 0 35 (bA 11 1) HT_.out ?_
     refine pT 2 37 (bA 11 5) HT_.out ?_
     refine pT 4 39 (bA 11 21) HT_.out ?_
     refine tT 1 36 (bA 11 23) HT_.out HW_.out hHeld ?_ (hy := by rintro w' ⟨s0, s1, s2, s3, s4⟩; go_simp; with_reducible rfl)
     refine tT 3 38 (bA 11 31) HT_.out HW_.out hHeld ?_ (hy := by rintro w' ⟨s0, s1, s2, s3, s4⟩; go_simp; with_reducible rfl)
     refine pT 5 40 (bA 11 63) HT_.out ?_
     refine tT 6 41 (bA 11 127) HT_.out HW_.out hHeld ?_ (hy := by rintro w' ⟨s0, s1, s2, s3, s4⟩; go_simp; with_reducible rfl)
     refine oT 7 (bA 11 255) HT_.out fun K hK => ?_
     refine value_ (w1 := ?_) (v := ?_) (by rfl) rfl ?_ ?_
     rotate_left 2
     ·go_simp
      constructor
      ·rfl
      ·rfl
     refine hK.out _ _ ⟨(blk_cell (blk_alloc ac.out _) 0).trans rfl, (blk_cell (blk_alloc ac.out _) 1).trans rfl, (blk_cell (blk_alloc ab.out _) 0).trans rfl, (blk_cell (blk_alloc ab.out _) 1).trans rfl, (World.cell?_alloc_lt _ _ _ (World.block_lt_of_cell? _ _ (((HB.out.cell (World.block_lt_of_cell? w _ hw459_0)).trans hw459_0)))).trans (((HB.out.cell (World.block_lt_of_cell? w _ hw459_0)).trans hw459_0))⟩ (fun hHeld => ?_)
     clear hK K
     refine mN 42 ?_
     refine oT 8 (bA 11 511) HT_.out fun K hK => ?_
     refine Kd.R_append_step Kd.string (w0 := w) w.heap.size (by rfl) (.tmp 36) (.tmp 42) 23 9 (.string ⟨#[]⟩) 16 rfl Tryz.underlying23 info9 rfl (by decide) (by omega) u453001 ai (rdOf ByteArray.empty l0_1 ah) [.string (rdOf ByteArray.empty l0_1 ah)] (fun _ => True) (fun _ => False) rfl rfl ?aP (fun _ hk => hk.elim) ?aF ?aO ?aB ?aS ?aL ?_
     (case aP => exact rfl)
     (case aB => exact (eTx HB.out))
     (case aF => exact (fun _ _ => trivial))
     (case aO => exact (rT aa.out))
     (case aS => exact (below_size (eTx HB.out)))
     (case aL => have := LMc18.out; omega)
     intro eF w31 ho hb hg hat
     rw [← Ny460.out] at ho
     replace ab := am (blk_grown (g := ap) (o := .cells #[.slice (some ad453) l0_0.length aC, .slice (some ad459) l0_1.length aD] 25 (0, 0)) (bT ab.out) hg (Kd.R_ne aa.out ab.out (by decide)))
     replace ae := am (blk_grown (g := au) (o := .cells #[.string a1_0, .string a1_1] 27 (0, 0)) (bT ae.out) hg (Kd.R_ne aa.out ae.out (by decide)))
     replace af := am (blk_grown (g := aK) (o := .cells #[.slice none 0 0, .slice none 0 0] 25 (0, 0)) (bT af.out) hg (Kd.R_ne aa.out af.out (by decide)))
     replace ac := am (blk_grown (g := ag) (o := .cells #[.slice a7 aX.length a8, u453001] 25 (0, 0)) (bT ac.out) hg (Kd.R_ne aa.out ac.out (by decide)))
     replace bb := am (Kd.R_over' (rT bb.out) (Kd.R_typed (rT aa.out)) (by decide) hg)
     replace HB := am (hb)
     have cb := am (ho)
     clear aa ho hb hg hat
     obtain ⟨ce, cf, co⟩ := Kd.R_slice cb.out
     (first | subst co | (injection co with f1_ f2_ f3_; have f4_ := f1_.symm; have f5_ := f3_.symm; clear f1_ f2_ f3_; subst f4_; subst f5_))
     refine hK.out _ _ ⟨cT ac 0, cT ac 1, cT ab 0, cT ab 1, ((HB.out.cell (World.block_lt_of_cell? w _ hw459_0)).trans hw459_0)⟩ (fun hHeld => ?_)
     clear hK K
     refine mN 43 ?_
     refine pT 9 44 (bA 11 1023) HT_.out ?_
     refine last_ (i := 10) (N := none) (bA 11 2047) rfl rfl (one_of HT_.out rfK) (by decide) (fun K hK => ?_)
     have eG : w31.cell? ⟨ag, 1, none⟩ = some (u453001) := cT ac 1
     have dN := blk_frozen ac.out 1
     have cE := ak.out
     have cF := aq.out
     have cG := ar.out
     have cH := aw.out
     have cI := aE.out
     have cJ := aG.out
     refine skip_ (w1 := ?_) (by rfl) rfl ?_ ?_
     rotate_left
     ·go_simp
      rfl
     refine hK.out _ _ ?_
     clear hK K
     refine done_ (done_of HT_.out rfK) ?_
     try go_wp2
     go_roundg k1
     case measure => have := HK1.out; omega
     case rel => exact ⟨(wrap64 (ah + 1)), (aX), (bw), (.slice a7 aX.length a8), (.slice ce bw.length cf), rfG, H', ⟨by have := HK1.out; omega⟩, ⟨by (with_reducible repeat (first | apply Kd.R_alloc | apply Kd.R_drewN | apply Kd.R_drew)); exact Kd.R_mono (Kd.R_far (p := ⟨ag, 1, none⟩) (Kd.R_types bb.out ac.out (by decide)) (fun _ hk => hk.2) (.slice ce bw.length cf)) (fun _ hk => hk.1)⟩, ⟨by (with_reducible repeat (first | apply Kd.R_alloc | apply Kd.R_drewN | apply Kd.R_drew)); exact Kd.R_mono (Kd.R_far (p := ⟨ag, 1, none⟩) (Kd.R_types cb.out ac.out (by decide)) (fun _ hk => hk.2) (.slice ce bw.length cf)) (fun _ hk => trivial)⟩, ⟨kBk⟩, ⟨kBk⟩, ⟨kBk⟩, ⟨kBk⟩, ⟨eTx HB.out⟩⟩
    ·have H' := Aside0.mk H
     clear H
     have dP := aQ.out
     have dQ := aR.out
     have dR := aU.out
     have dS := aV.out
     have dU := ak.out
     have dV := aw.out
     obtain ⟨bI, bJ, bK, bL⟩ := bxB ab
     try go_wp2
     replace ad := am (Kd.R_drew ad.out)
     replace aa := am (Kd.R_drew aa.out)
     replace ab := am (blk_drew ab.out)
     replace ae := am (blk_drew ae.out)
     replace af := am (blk_drew af.out)
     replace ac := am (blk_drew ac.out)
     replace HB := am (below_drew1 HB.out)
     have p453 : 0 ≤ (ah : Int) := of_decide_eq_true rfA
     have q453 : ah < (l0_0.length : Int) := of_decide_eq_true rfA
     obtain ⟨ad453, e453, ax, ay⟩ := at_T27 bj.out ah p453 q453
     have hw453_1 := ay
     have hw453_0 := ax
     cases e453
     replace ax := (HB.out.cell (World.block_lt_of_cell? w _ ax)).trans ax
     replace ay := (HB.out.cell (World.block_lt_of_cell? w _ ay)).trans ay
     replace p453 := eq_true p453
     replace q453 := eq_true q453
     refine start_ (n := 7) (S := fun w' => w'.cell? ⟨ap, 0, none⟩ = some (.slice (some ad453) l0_0.length aC) ∧ w'.cell? ⟨ap, 1, none⟩ = some (.slice aW l0_1.length aD) ∧ w'.cell? ⟨au, 0, none⟩ = some (.string a1_0) ∧ w'.cell? ⟨au, 1, none⟩ = some (.string a1_1) ∧ w'.cell? (ad453.add ((ah).toNat * 2)) = some (.string ((rd_T27 l0_0 ah).f0)) ∧ w'.cell? ⟨(ad453.add ((ah).toNat * 2)).block, (ad453.add ((ah).toNat * 2)).off + 1, none⟩ = some (.string ((rd_T27 l0_0 ah).f1))) (ds := []) (bA 7 0) rfK rfl rfK ⟨cT ab 0, cT ab 1, cT ae 0, cT ae 1, ((HB.out.cell (World.block_lt_of_cell? w _ hw453_0)).trans hw453_0), ((HB.out.cell (World.block_lt_of_cell? w _ hw453_1)).trans hw453_1)⟩ (fun hHeld => ?_)
     generalize wr.drew = w38 at ad aa ab ae af ac HB ax ay hHeld ⊢
     refine pure_ (i := 0) (N := some 18) (v := ?_) (a' := ?_) (bA 7 1) rfl rfl rfK (fun _ _ _ h => h) (Or.inl ⟨by rfl, ?_⟩) ?_ ?_
     rotate_left
     ·intro w'
      go_simp
      with_reducible rfl
     rotate_left
     ·simp only [pS]
      rfl
     refine pure_ (i := 2) (N := some 20) (v := ?_) (a' := ?_) (bA 7 5) rfl rfl rfK (fun _ _ _ h => h) (Or.inl ⟨by rfl, ?_⟩) ?_ ?_
     rotate_left
     ·intro w'
      go_simp
      with_reducible rfl
     rotate_left
     ·simp only [pS]
      rfl
     refine take_ (i := 1) (N := some 19) (v := ?_) (a' := ?_) (bA 7 7) rfl rfl rfK (fun _ _ _ h => h) (Or.inl ⟨by rfl, ?_⟩) hHeld ?_ ?_
     rotate_left
     ·rintro w' ⟨s0, s1, s2, s3, s4, s5⟩
      go_simp
      with_reducible rfl
     rotate_left
     ·simp only [pS]
      rfl
     refine pure_ (i := 3) (N := some 21) (v := ?_) (a' := ?_) (bA 7 15) rfl rfl rfK (fun _ _ _ h => h) (Or.inl ⟨by rfl, ?_⟩) ?_ ?_
     rotate_left
     ·intro w'
      go_simp
      with_reducible rfl
     rotate_left
     ·simp only [pS]
      rfl
     refine take_ (i := 4) (N := some 22) (v := ?_) (a' := ?_) (bA 7 31) rfl rfl rfK (fun _ _ _ h => h) (Or.inl ⟨by rfl, ?_⟩) hHeld ?_ ?_
     rotate_left
     ·rintro w' ⟨s0, s1, s2, s3, s4, s5⟩
      go_simp
      with_reducible rfl
     rotate_left
     ·simp only [pS]
      rfl
     refine take_ (i := 5) (N := some 23) (v := ?_) (a' := ?_) (bA 7 63) rfl rfl rfK (fun _ _ _ h => h) (Or.inl ⟨by rfl, ?_⟩) hHeld ?_ ?_
     rotate_left
     ·rintro w' ⟨s0, s1, s2, s3, s4, s5⟩
      go_simp
      with_reducible rfl
     rotate_left
     ·simp only [pS]
      rfl
     refine one_ (i := 6) (N := some 24) (bA 7 127) rfl rfl rfK (by decide) (fun K hK => ?_)
     refine gS Tryz.func35 #[.agg #[.string ((rd_T27 l0_0 ah).f0), .string ((rd_T27 l0_0 ah).f1)], .agg #[.string a1_0, .string a1_1]] ?_
     with_reducible refine (graftwoodref05_Less.calls k1 ((rd_T27 l0_0 ah).f0) ((rd_T27 l0_0 ah).f1) a1_0 a1_1 false _ A14.out).mono ?_
     rintro e w39 ⟨rfl, hb⟩
     refine ⟨_, rfl, ?_⟩
     replace ad := am (rB ad.out hb)
     replace aa := am (rB aa.out hb)
     replace ab := am (bB ab.out hb)
     replace ae := am (bB ae.out hb)
     replace af := am (bB af.out hb)
     replace ac := am (bB ac.out hb)
     replace HB := am (sTx HB.out hb)
     refine hK.out _ _ ⟨cT ab 0, cT ab 1, cT ae 0, cT ae 1, ((HB.out.cell (World.block_lt_of_cell? w _ hw453_0)).trans hw453_0), ((HB.out.cell (World.block_lt_of_cell? w _ hw453_1)).trans hw453_1)⟩ (fun hHeld => ?_)
     clear hK K
     refine mN 24 ?_
     refine done_ rfK ?_
     try go_wp2
     go_roundg k1
     case measure => have := HK1.out; omega
     case rel => exact ⟨(wrap64 (ah + 1)), (ao), (ai), (u453000), (u453001), rfG, H', ⟨by have := HK1.out; omega⟩, ⟨rT ad.out⟩, ⟨rT aa.out⟩, ⟨bT ab.out⟩, ⟨bT ae.out⟩, ⟨bT af.out⟩, ⟨bT ac.out⟩, ⟨eTx HB.out⟩⟩
   ·have ca := decide_eq_false c12
    clear c12
    replace H := ifP H; rcases H with ⟨c40, H⟩ | ⟨c40, H⟩
    ·have LMc40 := Aside0.mk c40
     clear c40
     obtain ⟨bi, bp⟩ : ∃ y_ : List (S27), y_ = (ao ++ [(⟨a1_0, a1_1⟩ : S27)]) := ⟨_, rfl⟩
     replace H : (if ai.length < 8796093022208 then (graftwoodref12_Put.l1 k1 0 l0_0 l0_1 a1_0 a1_1 bi (ai ++ [a2])) else (none)) = some (r1, r2) := by first | (rw [bp]; with_reducible exact H) | (have H2_ := (Option.bind_some _ _).symm.trans H; rw [bp]; with_reducible exact H2_) | (have H2_ := (Option.bind_some _ _).symm.trans H; with_reducible exact H2_) | with_reducible exact H | (rw [bp]; exact H) | exact H
     have Ny463 := Aside0.mk bp
     clear bp
     replace H := ifN H; obtain ⟨c41, H⟩ := H
     have LMc41 := Aside0.mk c41
     clear c41
     obtain ⟨bx, bq⟩ : ∃ y_ : List ByteArray, y_ = (ai ++ [a2]) := ⟨_, rfl⟩
     replace H : (graftwoodref12_Put.l1 k1 0 l0_0 l0_1 a1_0 a1_1 bi bx) = some (r1, r2) := by first | (rw [bq]; with_reducible exact H) | (have H2_ := (Option.bind_some _ _).symm.trans H; rw [bq]; with_reducible exact H2_) | (have H2_ := (Option.bind_some _ _).symm.trans H; with_reducible exact H2_) | with_reducible exact H | (rw [bq]; exact H) | exact H
     have Ny466 := Aside0.mk bq
     clear bq
     have H' := Aside0.mk H
     clear H
     have dW := aQ.out
     have dX := aR.out
     have dY := aU.out
     have dZ := aV.out
     have d0 := ak.out
     have d1 := aw.out
     obtain ⟨bM, bN, bO, bP⟩ := bxB ab
     have d2 := aE.out
     have d3 := aq.out
     have d4 := aG.out
     have d5 := ar.out
     obtain ⟨bQ, bR, bS, bU⟩ := bxB ac
     have d6 := bk.out
     have d7 := bl.out
     obtain ⟨bV, bW, bX, bZ⟩ := bxB ae
     go_wp2_with (first | ((with_reducible refine gate_builtin (b := .append) (xs := #[.tmp 46, .tmp 48]) rfl ?_); at_builtin; refine Kd.R_append k27 (w0 := w) w.heap.size rfl (.tmp 46) (.tmp 48) 22 27 (.agg #[(.string ⟨#[]⟩), (.string ⟨#[]⟩)]) 32 rfl Tryz.underlying22 info27 rfl (by decide) (by omega) u453000 ao (⟨a1_0, a1_1⟩ : S27) [.string a1_0, .string a1_1] (fun k_ => k_ ≠ au) (fun _ => False) rfl rfl ?aP (fun _ hk => hk.elim) ?aF ?aO ?aB ?aS ?aL ?_; (case aP => exact k27_mkM _ _ _ (⟨a1_0, a1_1⟩ : S27)); (case aB => exact (eTx HB.out)); (case aF => exact (fun k_ hk => Kd.freshB (g := au) (o := .cells #[.string a1_0, .string a1_1] 27 (0, 0)) (bT ae.out) k_ hk)); (case aO => exact (rT ad.out)); (case aS => exact (below_size (eTx HB.out))); (case aL => have := LMc40.out; omega); intro eH w51 ho hb hg hat; rw [← Ny463.out] at ho; replace aa := am (Kd.R_over' (rT aa.out) (Kd.R_typed (rT ad.out)) (by decide) hg); replace ab := am (blk_grown (g := ap) (o := .cells #[.slice bh l0_0.length aC, .slice aW l0_1.length aD] 25 (0, 0)) (bT ab.out) hg (Kd.R_ne ad.out ab.out (by decide))); replace ae := am (blk_grown (g := au) (o := .cells #[.string a1_0, .string a1_1] 27 (0, 0)) (bT ae.out) hg (Kd.R_away ad.out (fun _ hk => hk))); replace af := am (blk_grown (g := aK) (o := .cells #[.slice none 0 0, .slice none 0 0] 25 (0, 0)) (bT af.out) hg (Kd.R_ne ad.out af.out (by decide))); replace ac := am (blk_grown (g := ag) (o := .cells #[u453000, u453001] 25 (0, 0)) (bT ac.out) hg (Kd.R_ne ad.out ac.out (by decide))); replace HB := am (hb); have bv := am (ho); clear ad ho hb hg hat; obtain ⟨bt, bu, dm⟩ := Kd.R_slice bv.out; subst dm; obtain ⟨b0, b1, b2, b3⟩ := bxB ac) | ((with_reducible refine gate_builtin (b := .append) (xs := #[.tmp 52, .tmp 54]) rfl ?_); at_builtin; refine Kd.R_append Kd.string (w0 := w) w.heap.size rfl (.tmp 52) (.tmp 54) 23 9 (.string ⟨#[]⟩) 16 rfl Tryz.underlying23 info9 rfl (by decide) (by omega) u453001 ai a2 [.string a2] (fun _ => True) (fun _ => False) rfl (by first | (go_simp; done) | (go_simp; rfl)) ?aP (fun _ hk => hk.elim) ?aF ?aO ?aB ?aS ?aL ?_; (case aP => exact rfl); (case aB => exact (eTx HB.out)); (case aF => exact (fun _ _ => trivial)); (case aO => exact (by (with_reducible repeat (first | apply Kd.R_alloc | apply Kd.R_drewN | apply Kd.R_drew)); exact Kd.R_mono (Kd.R_far (p := ⟨ag, 0, none⟩) (Kd.R_types aa.out ac.out (by decide)) (fun _ hk => hk.2) (.slice bt bi.length bu)) (fun _ hk => trivial))); (case aS => exact (below_size (eTx HB.out))); (case aL => have := LMc41.out; omega); intro eI w54 ho hb hg hat; rw [← Ny466.out] at ho; replace ab := am (blk_grown (g := ap) (o := .cells #[.slice bh l0_0.length aC, .slice aW l0_1.length aD] 25 (0, 0)) kBk hg (Kd.R_ne aa.out ab.out (by decide))); replace ae := am (blk_grown (g := au) (o := .cells #[.string a1_0, .string a1_1] 27 (0, 0)) kBk hg (Kd.R_ne aa.out ae.out (by decide))); replace af := am (blk_grown (g := aK) (o := .cells #[.slice none 0 0, .slice none 0 0] 25 (0, 0)) kBk hg (Kd.R_ne aa.out af.out (by decide))); replace bv := am (Kd.R_over' (by (with_reducible repeat (first | apply Kd.R_alloc | apply Kd.R_drewN | apply Kd.R_drew)); exact (Kd.R_mono (Kd.R_far (p := ⟨ag, 0, none⟩) (Kd.R_types bv.out ac.out (by decide)) (fun _ hk => hk.2) (.slice bt bi.length bu)) (fun _ h_ => h_.1))) (Kd.R_typed (by (with_reducible repeat (first | apply Kd.R_alloc | apply Kd.R_drewN | apply Kd.R_drew)); exact (Kd.R_mono (Kd.R_far (p := ⟨ag, 0, none⟩) (Kd.R_types aa.out ac.out (by decide)) (fun _ hk => hk.2) (.slice bt bi.length bu)) (fun _ h_ => h_.1)))) (by decide) hg); replace HB := am (hb); have cc := am (ho); replace ac := am (blk_grown (g := ag) (o := .cells #[.slice bt bi.length bu, u453001] 25 (0, 0)) kBk hg (Kd.R_ne aa.out ac.out (by decide))); clear aa ho hb hg hat; obtain ⟨cg, ch, dn⟩ := Kd.R_slice cc.out; subst dn; obtain ⟨b4, b5, b6, b7⟩ := bxB ac))
     go_loopg [9] k1 (fun kq v9 w' => ∃ (aj : Int) (an : List (S27)) (al : List ByteArray) (u453000 : Value) (u453001 : Value), v9 = .int .i64 aj ∧ Aside0 (graftwoodref12_Put.l1 kq aj l0_0 l0_1 a1_0 a1_1 an al = some (r1, r2)) ∧ Aside0 (kq ≤ k1) ∧ Aside0 (Kd.R k27 27 w' w.heap.size (fun k_ => k_ ≠ au) u453000 an) ∧ Aside0 (Kd.R Kd.string 9 w' w.heap.size (fun _ => True) u453001 al) ∧ Aside0 (w'.heap[ap]? = some (.cells #[(.slice bh l0_0.length aC), (.slice aW l0_1.length aD)] 25 (0, 0))) ∧ Aside0 (w'.heap[au]? = some (.cells #[.string a1_0, .string a1_1] 27 (0, 0))) ∧ Aside0 (w'.heap[aK]? = some (.cells #[(.slice none 0 0), (.slice none 0 0)] 25 (0, 0))) ∧ Aside0 (w'.heap[ag]? = some (.cells #[u453000, u453001] 25 (0, 0))) ∧ Aside0 (Below w.heap.size w w'))
     case atStart => exact ⟨(0), (bi), (bx), (.slice bt bi.length bu), (.slice cg bx.length ch), rfG, H', ⟨Nat.le_refl _⟩, ⟨by (with_reducible repeat (first | apply Kd.R_alloc | apply Kd.R_drewN | apply Kd.R_drew)); exact Kd.R_mono (Kd.R_far (p := ⟨ag, 1, none⟩) (Kd.R_types bv.out ac.out (by decide)) (fun _ hk => hk.2) (.slice cg bx.length ch)) (fun _ hk => hk.1)⟩, ⟨by (with_reducible repeat (first | apply Kd.R_alloc | apply Kd.R_drewN | apply Kd.R_drew)); exact Kd.R_mono (Kd.R_far (p := ⟨ag, 1, none⟩) (Kd.R_types cc.out ac.out (by decide)) (fun _ hk => hk.2) (.slice cg bx.length ch)) (fun _ hk => trivial)⟩, ⟨kBk⟩, ⟨kBk⟩, ⟨kBk⟩, ⟨kBk⟩, ⟨eTx HB.out⟩⟩
     case round =>
      clear H'
      obtain ⟨aj, an, al, u453000, u453001, rfl, HA, HK2, ad, aa, ab, ae, af, ac, HB⟩ := hrel
      cases gk with
      | zero => exact absurd HA.out (by simp [graftwoodref12_Put.l1])
      | succ k2 =>
       have H := HA.out
       clear HA
       simp only [graftwoodref12_Put.l1] at H
       replace H := ifP H; rcases H with ⟨c57, H⟩ | ⟨c57, H⟩
       ·have cp := decide_eq_true c57
        clear c57
        replace H := ifN H; obtain ⟨c58, H⟩ := H
        have d8 := decide_eq_true c58
        clear c58
        replace H := bnd H; obtain ⟨bD, A59, H⟩ := H
        replace H := ifB H; rcases H with ⟨rfl, H⟩ | ⟨rfl, H⟩
        ·replace H := ifN H; obtain ⟨c61, H⟩ := H
         have LMc61 := Aside0.mk c61
         clear c61
         obtain ⟨aY, br⟩ : ∃ y_ : List (S27), y_ = (an ++ [(⟨(rd_T27 l0_0 aj).f0, (rd_T27 l0_0 aj).f1⟩ : S27)]) := ⟨_, rfl⟩
         replace H : (if aj < (l0_1.length : Int) then (if al.length < 8796093022208 then (graftwoodref12_Put.l1 k2 (wrap64 (aj + 1)) l0_0 l0_1 a1_0 a1_1 aY (al ++ [rdOf ByteArray.empty l0_1 aj])) else (none)) else (none)) = some (r1, r2) := by first | (rw [br]; with_reducible exact H) | (have H2_ := (Option.bind_some _ _).symm.trans H; rw [br]; with_reducible exact H2_) | (have H2_ := (Option.bind_some _ _).symm.trans H; with_reducible exact H2_) | with_reducible exact H | (rw [br]; exact H) | exact H
         have Ny472 := Aside0.mk br
         clear br
         replace H := ifN H; obtain ⟨c62, H⟩ := H
         have d9 := decide_eq_true c62
         clear c62
         replace H := ifN H; obtain ⟨c63, H⟩ := H
         have LMc63 := Aside0.mk c63
         clear c63
         obtain ⟨bz, bs⟩ : ∃ y_ : List ByteArray, y_ = (al ++ [rdOf ByteArray.empty l0_1 aj]) := ⟨_, rfl⟩
         replace H : (graftwoodref12_Put.l1 k2 (wrap64 (aj + 1)) l0_0 l0_1 a1_0 a1_1 aY bz) = some (r1, r2) := by first | (rw [bs]; with_reducible exact H) | (have H2_ := (Option.bind_some _ _).symm.trans H; rw [bs]; with_reducible exact H2_) | (have H2_ := (Option.bind_some _ _).symm.trans H; with_reducible exact H2_) | with_reducible exact H | (rw [bs]; exact H) | exact H
         have Ny476 := Aside0.mk bs
         clear bs
         have H' := Aside0.mk H
         clear H
         have d_ := aQ.out
         have ea := aR.out
         have eb := aU.out
         have ec := aV.out
         have ed := ak.out
         have ee := aw.out
         obtain ⟨cK, cL, cM, cN⟩ := bxB ab
         try go_wp2
         replace ad := am (Kd.R_drew ad.out)
         replace aa := am (Kd.R_drew aa.out)
         replace ab := am (blk_drew ab.out)
         replace ae := am (blk_drew ae.out)
         replace af := am (blk_drew af.out)
         replace ac := am (blk_drew ac.out)
         replace HB := am (below_drew1 HB.out)
         have p469 : 0 ≤ (aj : Int) := of_decide_eq_true rfA
         have q469 : aj < (l0_0.length : Int) := of_decide_eq_true rfA
         obtain ⟨ad469, e469, az, aA⟩ := at_T27 bj.out aj p469 q469
         have hw469_1 := aA
         have hw469_0 := az
         cases e469
         replace az := (HB.out.cell (World.block_lt_of_cell? w _ az)).trans az
         replace aA := (HB.out.cell (World.block_lt_of_cell? w _ aA)).trans aA
         replace p469 := eq_true p469
         replace q469 := eq_true q469
         refine start_ (n := 7) (S := fun w' => w'.cell? ⟨au, 0, none⟩ = some (.string a1_0) ∧ w'.cell? ⟨au, 1, none⟩ = some (.string a1_1) ∧ w'.cell? ⟨ap, 0, none⟩ = some (.slice (some ad469) l0_0.length aC) ∧ w'.cell? ⟨ap, 1, none⟩ = some (.slice aW l0_1.length aD) ∧ w'.cell? (ad469.add ((aj).toNat * 2)) = some (.string ((rd_T27 l0_0 aj).f0)) ∧ w'.cell? ⟨(ad469.add ((aj).toNat * 2)).block, (ad469.add ((aj).toNat * 2)).off + 1, none⟩ = some (.string ((rd_T27 l0_0 aj).f1))) (ds := []) (bA 7 0) rfK rfl rfK ⟨cT ae 0, cT ae 1, cT ab 0, cT ab 1, ((HB.out.cell (World.block_lt_of_cell? w _ hw469_0)).trans hw469_0), ((HB.out.cell (World.block_lt_of_cell? w _ hw469_1)).trans hw469_1)⟩ (fun hHeld => ?_)
         generalize wr.drew = w68 at ad aa ab ae af ac HB az aA hHeld ⊢
         refine pure_ (i := 1) (N := some 65) (v := ?_) (a' := ?_) (bA 7 2) rfl rfl rfK (fun _ _ _ h => h) (Or.inl ⟨by rfl, ?_⟩) ?_ ?_
         rotate_left
         ·intro w'
          go_simp
          with_reducible rfl
         rotate_left
         ·simp only [pS]
          rfl
         refine pure_ (i := 3) (N := some 67) (v := ?_) (a' := ?_) (bA 7 10) rfl rfl rfK (fun _ _ _ h => h) (Or.inl ⟨by rfl, ?_⟩) ?_ ?_
         rotate_left
         ·intro w'
          go_simp
          with_reducible rfl
         rotate_left
         ·simp only [pS]
          rfl
         refine take_ (i := 0) (N := some 64) (v := ?_) (a' := ?_) (bA 7 11) rfl rfl rfK (fun _ _ _ h => h) (Or.inl ⟨by rfl, ?_⟩) hHeld ?_ ?_
         rotate_left
         ·rintro w' ⟨s0, s1, s2, s3, s4, s5⟩
          go_simp
          with_reducible rfl
         rotate_left
         ·simp only [pS]
          rfl
         refine take_ (i := 2) (N := some 66) (v := ?_) (a' := ?_) (bA 7 15) rfl rfl rfK (fun _ _ _ h => h) (Or.inl ⟨by rfl, ?_⟩) hHeld ?_ ?_
         rotate_left
         ·rintro w' ⟨s0, s1, s2, s3, s4, s5⟩
          go_simp
          with_reducible rfl
         rotate_left
         ·simp only [pS]
          rfl
         refine pure_ (i := 4) (N := some 68) (v := ?_) (a' := ?_) (bA 7 31) rfl rfl rfK (fun _ _ _ h => h) (Or.inl ⟨by rfl, ?_⟩) ?_ ?_
         rotate_left
         ·intro w'
          go_simp
          with_reducible rfl
         rotate_left
         ·simp only [pS]
          rfl
         refine take_ (i := 5) (N := some 69) (v := ?_) (a' := ?_) (bA 7 63) rfl rfl rfK (fun _ _ _ h => h) (Or.inl ⟨by rfl, ?_⟩) hHeld ?_ ?_
         rotate_left
         ·rintro w' ⟨s0, s1, s2, s3, s4, s5⟩
          go_simp
          with_reducible rfl
         rotate_left
         ·simp only [pS]
          rfl
         refine one_ (i := 6) (N := some 70) (bA 7 127) rfl rfl rfK (by decide) (fun K hK => ?_)
         refine gS Tryz.func35 #[.agg #[.string a1_0, .string a1_1], .agg #[.string ((rd_T27 l0_0 aj).f0), .string ((rd_T27 l0_0 aj).f1)]] ?_
         with_reducible refine (graftwoodref05_Less.calls k2 a1_0 a1_1 ((rd_T27 l0_0 aj).f0) ((rd_T27 l0_0 aj).f1) true _ A59.out).mono ?_
         rintro e w69 ⟨rfl, hb⟩
         refine ⟨_, rfl, ?_⟩
         replace ad := am (rB ad.out hb)
         replace aa := am (rB aa.out hb)
         replace ab := am (bB ab.out hb)
         replace ae := am (bB ae.out hb)
         replace af := am (bB af.out hb)
         replace ac := am (bB ac.out hb)
         replace HB := am (sTx HB.out hb)
         refine hK.out _ _ ⟨cT ae 0, cT ae 1, cT ab 0, cT ab 1, ((HB.out.cell (World.block_lt_of_cell? w _ hw469_0)).trans hw469_0), ((HB.out.cell (World.block_lt_of_cell? w _ hw469_1)).trans hw469_1)⟩ (fun hHeld => ?_)
         clear hK K
         refine mN 70 ?_
         refine done_ rfK ?_
         try go_wp2
         replace ad := am (Kd.R_drew ad.out)
         replace aa := am (Kd.R_drew aa.out)
         replace ab := am (blk_drew ab.out)
         replace ae := am (blk_drew ae.out)
         replace af := am (blk_drew af.out)
         replace ac := am (blk_drew ac.out)
         replace HB := am (below_drew1 HB.out)
         have p471 : 0 ≤ (aj : Int) := of_decide_eq_true rfA
         have q471 : aj < (l0_0.length : Int) := of_decide_eq_true rfA
         obtain ⟨ad471, e471, be, bf⟩ := at_T27 bj.out aj p471 q471
         have hw471_1 := bf
         have hw471_0 := be
         obtain rfl : ad469 = ad471 := (by injection e471)
         replace be := (HB.out.cell (World.block_lt_of_cell? w _ be)).trans be
         replace bf := (HB.out.cell (World.block_lt_of_cell? w _ bf)).trans bf
         replace p471 := eq_true p471
         replace q471 := eq_true q471
         refine start_ (n := 11) (S := fun w' => w'.cell? ⟨ag, 0, none⟩ = some (u453000) ∧ w'.cell? ⟨ag, 1, none⟩ = some (u453001) ∧ w'.cell? ⟨ap, 0, none⟩ = some (.slice (some ad469) l0_0.length aC) ∧ w'.cell? ⟨ap, 1, none⟩ = some (.slice aW l0_1.length aD) ∧ w'.cell? (ad469.add ((aj).toNat * 2)) = some (.string ((rd_T27 l0_0 aj).f0)) ∧ w'.cell? ⟨(ad469.add ((aj).toNat * 2)).block, (ad469.add ((aj).toNat * 2)).off + 1, none⟩ = some (.string ((rd_T27 l0_0 aj).f1))) (ds := [10]) (bA 11 0) rfK rfl rfK ⟨cT ac 0, cT ac 1, cT ab 0, cT ab 1, ((HB.out.cell (World.block_lt_of_cell? w _ hw471_0)).trans hw471_0), ((HB.out.cell (World.block_lt_of_cell? w _ hw471_1)).trans hw471_1)⟩ (fun hHeld => ?_); refine with_tabW graftwoodref12_Put.tab14 graftwoodref12_Put.bits14 (fun HT_ HW_ => ?_)
         generalize w69.drew = w70 at ad aa ab ae af ac HB be bf hHeld ⊢
         refine pT 0 71 (bA 11 1) HT_.out ?_
         refine pT 2 73 (bA 11 5) HT_.out ?_
         refine pT 4 75 (bA 11 21) HT_.out ?_
         refine tT 1 72 (bA 11 23) HT_.out HW_.out hHeld ?_ (hy := by rintro w' ⟨s0, s1, s2, s3, s4, s5⟩; go_simp; with_reducible rfl)
         refine tT 3 74 (bA 11 31) HT_.out HW_.out hHeld ?_ (hy := by rintro w' ⟨s0, s1, s2, s3, s4, s5⟩; go_simp; with_reducible rfl)
         refine pT 5 76 (bA 11 63) HT_.out ?_
         refine tT 6 77 (bA 11 127) HT_.out HW_.out hHeld ?_ (hy := by rintro w' ⟨s0, s1, s2, s3, s4, s5⟩; go_simp; with_reducible rfl)
         refine oT 7 (bA 11 255) HT_.out fun K hK => ?_
         refine value_ (w1 := ?_) (v := ?_) (by rfl) rfl ?_ ?_
         rotate_left 2
         ·go_simp
          constructor
          ·rfl
          ·rfl
         refine hK.out _ _ ⟨(blk_cell (blk_alloc ac.out _) 0).trans rfl, (blk_cell (blk_alloc ac.out _) 1).trans rfl, (blk_cell (blk_alloc ab.out _) 0).trans rfl, (blk_cell (blk_alloc ab.out _) 1).trans rfl, (World.cell?_alloc_lt _ _ _ (World.block_lt_of_cell? _ _ (((HB.out.cell (World.block_lt_of_cell? w _ hw471_0)).trans hw471_0)))).trans (((HB.out.cell (World.block_lt_of_cell? w _ hw471_0)).trans hw471_0)), (World.cell?_alloc_lt _ _ _ (World.block_lt_of_cell? _ _ (((HB.out.cell (World.block_lt_of_cell? w _ hw471_1)).trans hw471_1)))).trans (((HB.out.cell (World.block_lt_of_cell? w _ hw471_1)).trans hw471_1))⟩ (fun hHeld => ?_)
         clear hK K
         refine mN 78 ?_
         refine oT 8 (bA 11 511) HT_.out fun K hK => ?_
         refine Kd.R_append_step k27 (w0 := w) w.heap.size (by rfl) (.tmp 72) (.tmp 78) 22 27 (.agg #[(.string ⟨#[]⟩), (.string ⟨#[]⟩)]) 32 rfl Tryz.underlying22 info27 rfl (by decide) (by omega) u453000 an (⟨(rd_T27 l0_0 aj).f0, (rd_T27 l0_0 aj).f1⟩ : S27) [.string ((rd_T27 l0_0 aj).f0), .string ((rd_T27 l0_0 aj).f1)] (fun k_ => k_ ≠ au) (fun _ => False) rfl rfl ?aP (fun _ hk => hk.elim) ?aF ?aO ?aB ?aS ?aL ?_
         (case aP => exact k27_mkM _ _ _ (⟨(rd_T27 l0_0 aj).f0, (rd_T27 l0_0 aj).f1⟩ : S27))
         (case aB => exact (eTx HB.out))
         (case aF => exact (fun k_ hk => Kd.freshB (g := au) (o := .cells #[.string a1_0, .string a1_1] 27 (0, 0)) (bT ae.out) k_ hk))
         (case aO => exact (rT ad.out))
         (case aS => exact (below_size (eTx HB.out)))
         (case aL => have := LMc61.out; omega)
         intro eK w71 ho hb hg hat
         rw [← Ny472.out] at ho
         replace aa := am (Kd.R_over' (rT aa.out) (Kd.R_typed (rT ad.out)) (by decide) hg)
         replace ab := am (blk_grown (g := ap) (o := .cells #[.slice (some ad469) l0_0.length aC, .slice aW l0_1.length aD] 25 (0, 0)) (bT ab.out) hg (Kd.R_ne ad.out ab.out (by decide)))
         replace ae := am (blk_grown (g := au) (o := .cells #[.string a1_0, .string a1_1] 27 (0, 0)) (bT ae.out) hg (Kd.R_away ad.out (fun _ hk => hk)))
         replace af := am (blk_grown (g := aK) (o := .cells #[.slice none 0 0, .slice none 0 0] 25 (0, 0)) (bT af.out) hg (Kd.R_ne ad.out af.out (by decide)))
         replace ac := am (blk_grown (g := ag) (o := .cells #[u453000, u453001] 25 (0, 0)) (bT ac.out) hg (Kd.R_ne ad.out ac.out (by decide)))
         replace HB := am (hb)
         have bc := am (ho)
         clear ad ho hb hg hat
         obtain ⟨a9, a_, cr⟩ := Kd.R_slice bc.out
         (first | subst cr | (injection cr with f1_ f2_ f3_; have f4_ := f1_.symm; have f5_ := f3_.symm; clear f1_ f2_ f3_; subst f4_; subst f5_))
         refine hK.out _ _ ⟨cT ac 0, cT ac 1, cT ab 0, cT ab 1, ((HB.out.cell (World.block_lt_of_cell? w _ hw471_0)).trans hw471_0), ((HB.out.cell (World.block_lt_of_cell? w _ hw471_1)).trans hw471_1)⟩ (fun hHeld => ?_)
         clear hK K
         refine mN 79 ?_
         refine pT 9 80 (bA 11 1023) HT_.out ?_
         refine last_ (i := 10) (N := none) (bA 11 2047) rfl rfl (one_of HT_.out rfK) (by decide) (fun K hK => ?_)
         obtain ⟨eL, ef⟩ := bxA ac
         have cO := ak.out
         have cP := aq.out
         have cQ := ar.out
         have cR := aw.out
         have cS := aE.out
         have cU := aG.out
         refine skip_ (w1 := ?_) (by rfl) rfl ?_ ?_
         rotate_left
         ·go_simp
          rfl
         refine hK.out _ _ ?_
         clear hK K
         refine done_ (done_of HT_.out rfK) ?_
         try go_wp2
         obtain ⟨w74, hW_⟩ : ∃ W_, (w71.setCell ⟨ag, 0, none⟩ (.slice a9 aY.length a_)) = W_ := ⟨_, rfl⟩
         have n0_ : Aside0 (Kd.R Kd.string 9 w74 w.heap.size (fun _ => True) u453001 al) := ⟨by rw [← hW_]; (with_reducible repeat (first | apply Kd.R_alloc | apply Kd.R_drewN | apply Kd.R_drew)); exact Kd.R_mono (Kd.R_far (p := ⟨ag, 0, none⟩) (Kd.R_types aa.out ac.out (by decide)) (fun _ hk => hk.2) (.slice a9 aY.length a_)) (fun _ hk => trivial)⟩
         have n1_ : Aside0 (Kd.R k27 27 w74 w.heap.size (fun k_ => k_ ≠ au) (.slice a9 aY.length a_) aY) := ⟨by rw [← hW_]; (with_reducible repeat (first | apply Kd.R_alloc | apply Kd.R_drewN | apply Kd.R_drew)); exact Kd.R_mono (Kd.R_far (p := ⟨ag, 0, none⟩) (Kd.R_types bc.out ac.out (by decide)) (fun _ hk => hk.2) (.slice a9 aY.length a_)) (fun _ hk => hk.1)⟩
         have n2_ : Aside0 (w74.heap[ap]? = some (.cells #[.slice (some ad469) l0_0.length aC, .slice aW l0_1.length aD] 25 (0, 0))) := ⟨by rw [← hW_]; exact kBk⟩
         have n3_ : Aside0 (w74.heap[au]? = some (.cells #[.string a1_0, .string a1_1] 27 (0, 0))) := ⟨by rw [← hW_]; exact kBk⟩
         have n4_ : Aside0 (w74.heap[aK]? = some (.cells #[.slice none 0 0, .slice none 0 0] 25 (0, 0))) := ⟨by rw [← hW_]; exact kBk⟩
         have n5_ : Aside0 (w74.heap[ag]? = some (.cells #[.slice a9 aY.length a_, u453001] 25 (0, 0))) := ⟨by rw [← hW_]; exact kBk⟩
         have n6_ : Aside0 (Below w.heap.size w w74) := ⟨by rw [← hW_]; exact eTx HB.out⟩
         rw [hW_]
         clear hW_
         have aa := n0_
         have bc := n1_
         have ab := n2_
         have ae := n3_
         have af := n4_
         have ac := n5_
         have HB := n6_
         clear n0_ n1_ n2_ n3_ n4_ n5_ n6_
         replace aa := am (Kd.R_drew aa.out)
         replace bc := am (Kd.R_drew bc.out)
         replace ab := am (blk_drew ab.out)
         replace ae := am (blk_drew ae.out)
         replace af := am (blk_drew af.out)
         replace ac := am (blk_drew ac.out)
         replace HB := am (below_drew1 HB.out)
         have p475 : 0 ≤ (aj : Int) := of_decide_eq_true rfA
         have q475 : aj < (l0_1.length : Int) := of_decide_eq_true rfA
         obtain ⟨ad475, e475, bg⟩ := Kd.at_string b_.out aj p475 q475
         have hw475_0 := bg
         cases e475
         replace bg := (HB.out.cell (World.block_lt_of_cell? w _ bg)).trans bg
         replace p475 := eq_true p475
         replace q475 := eq_true q475
         refine start_ (n := 11) (S := fun w' => w'.cell? ⟨ag, 0, none⟩ = some (.slice a9 aY.length a_) ∧ w'.cell? ⟨ag, 1, none⟩ = some (u453001) ∧ w'.cell? ⟨ap, 0, none⟩ = some (.slice (some ad469) l0_0.length aC) ∧ w'.cell? ⟨ap, 1, none⟩ = some (.slice (some ad475) l0_1.length aD) ∧ w'.cell? (ad475.add (aj).toNat) = some (.string (rdOf ByteArray.empty l0_1 aj))) (ds := [10]) (bA 11 0) rfK rfl rfK ⟨cT ac 0, cT ac 1, cT ab 0, cT ab 1, ((HB.out.cell (World.block_lt_of_cell? w _ hw475_0)).trans hw475_0)⟩ (fun hHeld => ?_); refine with_tabW graftwoodref12_Put.tab15 graftwoodref12_Put.bits15 (fun HT_ HW_ => ?_)
         generalize w74.drew = w75 at aa bc ab ae af ac HB bg hHeld ⊢
         refine pT 0 81 (bA 11 1) HT_.out ?_
         refine pT 2 83 (bA 11 5) HT_.out ?_
         refine pT 4 85 (bA 11 21) HT_.out ?_
         refine tT 1 82 (bA 11 23) HT_.out HW_.out hHeld ?_ (hy := by rintro w' ⟨s0, s1, s2, s3, s4⟩; go_simp; with_reducible rfl)
         refine tT 3 84 (bA 11 31) HT_.out HW_.out hHeld ?_ (hy := by rintro w' ⟨s0, s1, s2, s3, s4⟩; go_simp; with_reducible rfl)
         refine pT 5 86 (bA 11 63) HT_.out ?_
         refine tT 6 87 (bA 11 127) HT_.out HW_.out hHeld ?_ (hy := by rintro w' ⟨s0, s1, s2, s3, s4⟩; go_simp; with_reducible rfl)
         refine oT 7 (bA 11 255) HT_.out fun K hK => ?_
         refine value_ (w1 := ?_) (v := ?_) (by rfl) rfl ?_ ?_
         rotate_left 2
         ·go_simp
          constructor
          ·rfl
          ·rfl
         refine hK.out _ _ ⟨(blk_cell (blk_alloc ac.out _) 0).trans rfl, (blk_cell (blk_alloc ac.out _) 1).trans rfl, (blk_cell (blk_alloc ab.out _) 0).trans rfl, (blk_cell (blk_alloc ab.out _) 1).trans rfl, (World.cell?_alloc_lt _ _ _ (World.block_lt_of_cell? _ _ (((HB.out.cell (World.block_lt_of_cell? w _ hw475_0)).trans hw475_0)))).trans (((HB.out.cell (World.block_lt_of_cell? w _ hw475_0)).trans hw475_0))⟩ (fun hHeld => ?_)
         clear hK K
         refine mN 88 ?_
         refine oT 8 (bA 11 511) HT_.out fun K hK => ?_
         refine Kd.R_append_step Kd.string (w0 := w) w.heap.size (by rfl) (.tmp 82) (.tmp 88) 23 9 (.string ⟨#[]⟩) 16 rfl Tryz.underlying23 info9 rfl (by decide) (by omega) u453001 al (rdOf ByteArray.empty l0_1 aj) [.string (rdOf ByteArray.empty l0_1 aj)] (fun _ => True) (fun _ => False) rfl rfl ?aP (fun _ hk => hk.elim) ?aF ?aO ?aB ?aS ?aL ?_
         (case aP => exact rfl)
         (case aB => exact (eTx HB.out))
         (case aF => exact (fun _ _ => trivial))
         (case aO => exact (rT aa.out))
         (case aS => exact (below_size (eTx HB.out)))
         (case aL => have := LMc63.out; omega)
         intro eM w76 ho hb hg hat
         rw [← Ny476.out] at ho
         replace ab := am (blk_grown (g := ap) (o := .cells #[.slice (some ad469) l0_0.length aC, .slice (some ad475) l0_1.length aD] 25 (0, 0)) (bT ab.out) hg (Kd.R_ne aa.out ab.out (by decide)))
         replace ae := am (blk_grown (g := au) (o := .cells #[.string a1_0, .string a1_1] 27 (0, 0)) (bT ae.out) hg (Kd.R_ne aa.out ae.out (by decide)))
         replace af := am (blk_grown (g := aK) (o := .cells #[.slice none 0 0, .slice none 0 0] 25 (0, 0)) (bT af.out) hg (Kd.R_ne aa.out af.out (by decide)))
         replace ac := am (blk_grown (g := ag) (o := .cells #[.slice a9 aY.length a_, u453001] 25 (0, 0)) (bT ac.out) hg (Kd.R_ne aa.out ac.out (by decide)))
         replace bc := am (Kd.R_over' (rT bc.out) (Kd.R_typed (rT aa.out)) (by decide) hg)
         replace HB := am (hb)
         have cd := am (ho)
         clear aa ho hb hg hat
         obtain ⟨ci, cj, ct⟩ := Kd.R_slice cd.out
         (first | subst ct | (injection ct with f1_ f2_ f3_; have f4_ := f1_.symm; have f5_ := f3_.symm; clear f1_ f2_ f3_; subst f4_; subst f5_))
         refine hK.out _ _ ⟨cT ac 0, cT ac 1, cT ab 0, cT ab 1, ((HB.out.cell (World.block_lt_of_cell? w _ hw475_0)).trans hw475_0)⟩ (fun hHeld => ?_)
         clear hK K
         refine mN 89 ?_
         refine pT 9 90 (bA 11 1023) HT_.out ?_
         refine last_ (i := 10) (N := none) (bA 11 2047) rfl rfl (one_of HT_.out rfK) (by decide) (fun K hK => ?_)
         have eN : w76.cell? ⟨ag, 1, none⟩ = some (u453001) := cT ac 1
         have eg := blk_frozen ac.out 1
         have cV := ak.out
         have cX := aq.out
         have cY := ar.out
         have cZ := aw.out
         have c0 := aE.out
         have c2 := aG.out
         refine skip_ (w1 := ?_) (by rfl) rfl ?_ ?_
         rotate_left
         ·go_simp
          rfl
         refine hK.out _ _ ?_
         clear hK K
         refine done_ (done_of HT_.out rfK) ?_
         try go_wp2
         go_roundg k2
         case measure => have := HK1.out; have := HK2.out; omega
         case rel => exact ⟨(wrap64 (aj + 1)), (aY), (bz), (.slice a9 aY.length a_), (.slice ci bz.length cj), rfG, H', ⟨by have := HK1.out; have := HK2.out; omega⟩, ⟨by (with_reducible repeat (first | apply Kd.R_alloc | apply Kd.R_drewN | apply Kd.R_drew)); exact Kd.R_mono (Kd.R_far (p := ⟨ag, 1, none⟩) (Kd.R_types bc.out ac.out (by decide)) (fun _ hk => hk.2) (.slice ci bz.length cj)) (fun _ hk => hk.1)⟩, ⟨by (with_reducible repeat (first | apply Kd.R_alloc | apply Kd.R_drewN | apply Kd.R_drew)); exact Kd.R_mono (Kd.R_far (p := ⟨ag, 1, none⟩) (Kd.R_types cd.out ac.out (by decide)) (fun _ hk => hk.2) (.slice ci bz.length cj)) (fun _ hk => trivial)⟩, ⟨kBk⟩, ⟨kBk⟩, ⟨kBk⟩, ⟨kBk⟩, ⟨eTx HB.out⟩⟩
        ·have H' := Aside0.mk H
         clear H
         have eh := aQ.out
         have ei := aR.out
         have ej := aU.out
         have ek := aV.out
         have el := ak.out
         have em := aw.out
         obtain ⟨c5, c6, c7, c_⟩ := bxB ab
         try go_wp2
         replace ad := am (Kd.R_drew ad.out)
         replace aa := am (Kd.R_drew aa.out)
         replace ab := am (blk_drew ab.out)
         replace ae := am (blk_drew ae.out)
         replace af := am (blk_drew af.out)
         replace ac := am (blk_drew ac.out)
         replace HB := am (below_drew1 HB.out)
         have p469 : 0 ≤ (aj : Int) := of_decide_eq_true rfA
         have q469 : aj < (l0_0.length : Int) := of_decide_eq_true rfA
         obtain ⟨ad469, e469, az, aA⟩ := at_T27 bj.out aj p469 q469
         have hw469_1 := aA
         have hw469_0 := az
         cases e469
         replace az := (HB.out.cell (World.block_lt_of_cell? w _ az)).trans az
         replace aA := (HB.out.cell (World.block_lt_of_cell? w _ aA)).trans aA
         replace p469 := eq_true p469
         replace q469 := eq_true q469
         refine start_ (n := 7) (S := fun w' => w'.cell? ⟨au, 0, none⟩ = some (.string a1_0) ∧ w'.cell? ⟨au, 1, none⟩ = some (.string a1_1) ∧ w'.cell? ⟨ap, 0, none⟩ = some (.slice (some ad469) l0_0.length aC) ∧ w'.cell? ⟨ap, 1, none⟩ = some (.slice aW l0_1.length aD) ∧ w'.cell? (ad469.add ((aj).toNat * 2)) = some (.string ((rd_T27 l0_0 aj).f0)) ∧ w'.cell? ⟨(ad469.add ((aj).toNat * 2)).block, (ad469.add ((aj).toNat * 2)).off + 1, none⟩ = some (.string ((rd_T27 l0_0 aj).f1))) (ds := []) (bA 7 0) rfK rfl rfK ⟨cT ae 0, cT ae 1, cT ab 0, cT ab 1, ((HB.out.cell (World.block_lt_of_cell? w _ hw469_0)).trans hw469_0), ((HB.out.cell (World.block_lt_of_cell? w _ hw469_1)).trans hw469_1)⟩ (fun hHeld => ?_)
         generalize wr.drew = w83 at ad aa ab ae af ac HB az aA hHeld ⊢
         refine pure_ (i := 1) (N := some 65) (v := ?_) (a' := ?_) (bA 7 2) rfl rfl rfK (fun _ _ _ h => h) (Or.inl ⟨by rfl, ?_⟩) ?_ ?_
         rotate_left
         ·intro w'
          go_simp
          with_reducible rfl
         rotate_left
         ·simp only [pS]
          rfl
         refine pure_ (i := 3) (N := some 67) (v := ?_) (a' := ?_) (bA 7 10) rfl rfl rfK (fun _ _ _ h => h) (Or.inl ⟨by rfl, ?_⟩) ?_ ?_
         rotate_left
         ·intro w'
          go_simp
          with_reducible rfl
         rotate_left
         ·simp only [pS]
          rfl
         refine take_ (i := 0) (N := some 64) (v := ?_) (a' := ?_) (bA 7 11) rfl rfl rfK (fun _ _ _ h => h) (Or.inl ⟨by rfl, ?_⟩) hHeld ?_ ?_
         rotate_left
         ·rintro w' ⟨s0, s1, s2, s3, s4, s5⟩
          go_simp
          with_reducible rfl
         rotate_left
         ·simp only [pS]
          rfl
         refine take_ (i := 2) (N := some 66) (v := ?_) (a' := ?_) (bA 7 15) rfl rfl rfK (fun _ _ _ h => h) (Or.inl ⟨by rfl, ?_⟩) hHeld ?_ ?_
         rotate_left
         ·rintro w' ⟨s0, s1, s2, s3, s4, s5⟩
          go_simp
          with_reducible rfl
         rotate_left
         ·simp only [pS]
          rfl
         refine pure_ (i := 4) (N := some 68) (v := ?_) (a' := ?_) (bA 7 31) rfl rfl rfK (fun _ _ _ h => h) (Or.inl ⟨by rfl, ?_⟩) ?_ ?_
         rotate_left
         ·intro w'
          go_simp
          with_reducible rfl
         rotate_left
         ·simp only [pS]
          rfl
         refine take_ (i := 5) (N := some 69) (v := ?_) (a' := ?_) (bA 7 63) rfl rfl rfK (fun _ _ _ h => h) (Or.inl ⟨by rfl, ?_⟩) hHeld ?_ ?_
         rotate_left
         ·rintro w' ⟨s0, s1, s2, s3, s4, s5⟩
          go_simp
          with_reducible rfl
         rotate_left
         ·simp only [pS]
          rfl
         refine one_ (i := 6) (N := some 70) (bA 7 127) rfl rfl rfK (by decide) (fun K hK => ?_)
         refine gS Tryz.func35 #[.agg #[.string a1_0, .string a1_1], .agg #[.string ((rd_T27 l0_0 aj).f0), .string ((rd_T27 l0_0 aj).f1)]] ?_
         with_reducible refine (graftwoodref05_Less.calls k2 a1_0 a1_1 ((rd_T27 l0_0 aj).f0) ((rd_T27 l0_0 aj).f1) false _ A59.out).mono ?_
         rintro e w84 ⟨rfl, hb⟩
         refine ⟨_, rfl, ?_⟩
         replace ad := am (rB ad.out hb)
         replace aa := am (rB aa.out hb)
         replace ab := am (bB ab.out hb)
         replace ae := am (bB ae.out hb)
         replace af := am (bB af.out hb)
         replace ac := am (bB ac.out hb)
         replace HB := am (sTx HB.out hb)
         refine hK.out _ _ ⟨cT ae 0, cT ae 1, cT ab 0, cT ab 1, ((HB.out.cell (World.block_lt_of_cell? w _ hw469_0)).trans hw469_0), ((HB.out.cell (World.block_lt_of_cell? w _ hw469_1)).trans hw469_1)⟩ (fun hHeld => ?_)
         clear hK K
         refine mN 70 ?_
         refine done_ rfK ?_
         try go_wp2
         go_roundg k2
         case measure => have := HK1.out; have := HK2.out; omega
         case rel => exact ⟨(wrap64 (aj + 1)), (an), (al), (u453000), (u453001), rfG, H', ⟨by have := HK1.out; have := HK2.out; omega⟩, ⟨rT ad.out⟩, ⟨rT aa.out⟩, ⟨bT ab.out⟩, ⟨bT ae.out⟩, ⟨bT af.out⟩, ⟨bT ac.out⟩, ⟨eTx HB.out⟩⟩
       ·have cp := decide_eq_false c57
        clear c57
        replace H := prB H; obtain ⟨rfl, rfl⟩ := H
        have en := aQ.out
        have eo := aR.out
        have ep := aU.out
        have eq := aV.out
        have er := ak.out
        have es := aw.out
        obtain ⟨da, db, dc, dd⟩ := bxB ab
        have et := aE.out
        have eu := aq.out
        have ev := aG.out
        have ew := ar.out
        obtain ⟨de, df, dg, dh⟩ := bxB ac
        obtain ⟨b8, b9, dp⟩ := Kd.R_slice ad.out
        subst dp
        have ex := bl.out
        have ey := bk.out
        obtain ⟨di, dj, dk, dl⟩ := bxB af
        obtain ⟨ck, cl, dq⟩ := Kd.R_slice aa.out
        subst dq
        go_wp2
        refine bodyPost_ret (results_cell_row rfl _ _ aK 25 #[.slice b8 an.length b9, .slice ck al.length cl] (0, 0) _ rfl kBk Tryz.underlying25 rfl rfK) rfl ?_
        exact ⟨_, _, rfF, by (with_reducible repeat (first | apply Kd.R_alloc | apply Kd.R_drewN | apply Kd.R_drew)); exact Kd.R_mono (Kd.R_far (p := ⟨aK, 1, none⟩) (Kd.R_far (p := ⟨aK, 0, none⟩) (Kd.R_types ad.out af.out (by decide)) (fun _ hk => hk.2) (.slice b8 an.length b9)) (fun _ hk => hk.2) (.slice ck al.length cl)) (fun _ hk => trivial), by (with_reducible repeat (first | apply Kd.R_alloc | apply Kd.R_drewN | apply Kd.R_drew)); exact Kd.R_mono (Kd.R_far (p := ⟨aK, 1, none⟩) (Kd.R_far (p := ⟨aK, 0, none⟩) (Kd.R_types aa.out af.out (by decide)) (fun _ hk => hk.2) (.slice b8 an.length b9)) (fun _ hk => hk.2) (.slice ck al.length cl)) (fun _ hk => trivial), eTx HB.out⟩
    ·exact absurd H (by simp)

end Go.Proofs.YtomjppafgalaoaaGreatDoor.P
