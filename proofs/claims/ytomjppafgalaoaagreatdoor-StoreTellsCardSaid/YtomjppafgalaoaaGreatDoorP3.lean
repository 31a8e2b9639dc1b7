-- half the indentation
import Derived.Test.YtomjppafgalaoaaGreatDoorSqz
import Derived.Test.YtomjppafgalaoaaGreatDoorP0
namespace Go.Proofs.YtomjppafgalaoaaGreatDoor.P
open Go.RowKit Go.Proofs.YtomjppafgalaoaaGreatDoorW.PrintWords Go.Proofs.YtomjppafgalaoaaGreatDoorW.PrintLast Go.Proofs.YtomjppafgalaoaaGreatDoorW.PrintMore
attribute [local go_sem] max2_int min2_int max_two min_two max_three min_three max_four min_four
set_option linter.unusedVariables false
set_option linter.unusedSimpArgs false
set_option maxHeartbeats 8000000
set_option maxRecDepth 100000

/-! ### graftwoodlaw01_Few: function 20 -/
def graftwoodlaw01_Few.f (a0 : ByteArray) : Option (ByteArray) := if (a0.size : Int) > 400 then (if 0 ≤ 400 then (if 400 ≤ (a0.size : Int) then (some (a0.extract 0 400)) else (none)) else (none)) else (some a0)
theorem graftwoodlaw01_Few.calls (a0 : ByteArray) (r : ByteArray) (w : World) (h : graftwoodlaw01_Few.f a0 = some r) :
  Calls Tryz.prog 20 #[.string a0] w fun e w' => e = .returned (.string r) ∧ Drawn0 w w' := by
 unfold graftwoodlaw01_Few.f at h; have H := h; clear h
 replace H := ifP H; rcases H with ⟨c2, H⟩ | ⟨c2, H⟩
 ·have a2 : decide (400 < (a0.size : Int)) = true := decide_eq_true c2
  have bb : decide (400 < a0.size) = true := decide_eq_true (by omega)
  clear c2
  replace H := ifN H; obtain ⟨c3, H⟩ := H
  have bc := eq_true c3
  have b_ := decide_eq_true c3
  clear c3
  replace H := ifN H; obtain ⟨c4, H⟩ := H
  have bp := eq_true c4
  have ca := decide_eq_true c4
  clear c4
  obtain rfl := smI H
  go_enter Tryz.func20, Tryz.ntmps20
  go_wp2
  go_ret
  exact ⟨rfG, rfD⟩
 ·have a2 : decide (400 < (a0.size : Int)) = false := decide_eq_false c2
  have bb : decide (400 < a0.size) = false := decide_eq_false (by omega)
  clear c2
  obtain rfl := smI H
  go_enter Tryz.func20, Tryz.ntmps20
  go_wp2
  go_ret
  exact ⟨rfG, rfD⟩

/-! ### graftwoodlaw05_One: function 5 -/
def graftwoodlaw05_One.f (a0_0 : ByteArray) (a0_1 : ByteArray) : Option (ByteArray × ByteArray) := (graftwoodlaw01_Few.f a0_0).bind fun aG => ((graftwoodlaw01_Few.f a0_1).bind fun aH => (some (aG, aH)))
def graftwoodlaw05_One.T1 : Bool × List (List Nat × List Nat) := (true, [([], []), ([0], [0]), ([1], [1]), ([], []), ([3], [3]), ([4, 2], [4]), ([2, 5], [2, 5]), ([6, 5, 0, 1, 2, 3, 4, 5, 6], [6])])
def graftwoodlaw05_One.B1 : List Nat := [0, 1, 3, 0, 8, 31, 63, 127]
theorem graftwoodlaw05_One.tab1 : rtab .any (opsOf Tryz.f5 1) = graftwoodlaw05_One.T1 := by kernel_rfl
theorem graftwoodlaw05_One.bits1 : waitsOk graftwoodlaw05_One.T1.2 graftwoodlaw05_One.B1 = true := by kernel_rfl
theorem graftwoodlaw05_One.calls (a0_0 : ByteArray) (a0_1 : ByteArray) (r1 : ByteArray) (r2 : ByteArray) (w : World) (h : graftwoodlaw05_One.f a0_0 a0_1 = some (r1, r2)) :
  Calls Tryz.prog 5 #[.agg #[.string a0_0, .string a0_1]] w fun e w' => e = .returned (.agg #[.string r1, .string r2]) ∧ Below w.heap.size w w' := by
 have hu27 := Tryz.underlying27
 have HB := am (Below.refl w.heap.size w)
 unfold graftwoodlaw05_One.f at h; have H := h; clear h
 replace H := bnd H; obtain ⟨aG, A2, H⟩ := H
 replace H := bnd H; obtain ⟨aH, A3, H⟩ := H
 replace H := prB H; obtain ⟨rfl, rfl⟩ := H
 go_enter Tryz.func5, Tryz.ntmps5
 try go_wp2_with (first | ((with_reducible refine gtD 1 ?_); refine xBx 1 27 #[.string a0_0, .string a0_1] ?_; intro a9 hg w4 hbox hb; have ao := am (hbox); have ch := am ((gTx hg HB.out)); have ci := am ((gTx hg HB.out)); replace HB := am (sTx HB.out hb); clear hb hbox hg) | ((with_reducible refine gtD 2 ?_); refine xBx 2 27 #[.string (⟨#[]⟩ : ByteArray), .string (⟨#[]⟩ : ByteArray)] ?_; intro az hg w5 hbox hb; have ax := am (hbox); have cj := am ((gTx hg HB.out)); have ck := am ((gTx hg HB.out)); have al := am ((nT ao.out hg)); have aE := am ((mT ao.out hg)); replace ao := am (bB ao.out hb); replace HB := am (sTx HB.out hb); clear hb hbox hg))
 replace ao := am (blk_drew ao.out)
 replace ax := am (blk_drew ax.out)
 replace HB := am (below_drew1 HB.out)
 refine start_ (n := 8) (S := fun w' => w'.cell? ⟨a9, 0, none⟩ = some (.string a0_0) ∧ w'.cell? ⟨a9, 1, none⟩ = some (.string a0_1)) (ds := []) (bA 8 0) rfK rfl rfK ⟨cT ao 0, cT ao 1⟩ (fun hHeld => ?_); refine with_tabW graftwoodlaw05_One.tab1 graftwoodlaw05_One.bits1 (fun HT_ HW_ => ?_)
 generalize w5.drew = w6 at ao ax HB hHeld ⊢
 refine pT 0 3 (bA 8 1) HT_.out ?_
 refine pT 3 6 (bA 8 9) HT_.out ?_
 refine tT 1 4 (bA 8 11) HT_.out HW_.out hHeld ?_ (hy := by rintro w' ⟨s0, s1⟩; go_simp; with_reducible rfl)
 refine tT 4 7 (bA 8 27) HT_.out HW_.out hHeld ?_ (hy := by rintro w' ⟨s0, s1⟩; go_simp; with_reducible rfl)
 refine oT 2 (bA 8 31) HT_.out fun K hK => ?_
 refine gS Tryz.func20 #[.string a0_0] ?_
 with_reducible refine (graftwoodlaw01_Few.calls a0_0 aG _ A2.out).mono ?_
 rintro e w' ⟨rfl, ⟨nd, rfl⟩⟩
 refine ⟨_, rfl, ?_⟩
 refine hK.out _ _ ⟨cT ao 0, cT ao 1⟩ (fun hHeld => ?_)
 clear hK K
 refine mN 5 ?_
 refine oT 5 (bA 8 63) HT_.out fun K hK => ?_
 refine gS Tryz.func20 #[.string a0_1] ?_
 with_reducible refine (graftwoodlaw01_Few.calls a0_1 aH _ A3.out).mono ?_
 rintro e w' ⟨rfl, ⟨nd, rfl⟩⟩
 refine ⟨_, rfl, ?_⟩
 refine hK.out _ _ ⟨cT ao 0, cT ao 1⟩ (fun hHeld => ?_)
 clear hK K
 refine mN 8 ?_
 refine pT 6 9 (bA 8 127) HT_.out ?_
 refine oT 7 (bA 8 255) HT_.out fun K hK => ?_
 obtain ⟨hs7, cP⟩ := bxA ax
 have cb := al.out
 have cc := aE.out
 have hs8 : w6.cell? ⟨az, 1, none⟩ = some (.string (⟨#[]⟩ : ByteArray)) := cT ax 1
 have cQ := blk_frozen ax.out 1
 have cd := al.out
 have ce := aE.out
 refine skip_ (w1 := ?_) (by rfl) rfl ?_ ?_
 rotate_left
 ·go_simp
  rfl
 refine hK.out _ _ kCl (fun hHeld => ?_)
 clear hK K
 refine done_ (done_of HT_.out rfK) ?_
 try go_wp2
 refine bodyPost_ret (results_cell_row rfl _ _ az 27 #[.string aG, .string aH] (0, 0) _ rfl kBk Tryz.underlying27 rfl rfK) rfl ?_
 exact ⟨rfF, eTx HB.out⟩

/-! ### graftwoodlaw05_Few: function 18 -/
def graftwoodlaw05_Few.l0 : Nat → List (S27) → List (S27) → Int → Option ((List (S27)))
 | 0, _, _, _ => none
 | k + 1, x0, x3, x4 => if x4 < (x0.length : Int) then (if x4 < 24 then (if 0 ≤ x4 then ((graftwoodlaw05_One.f ((rd_T27 x0 x4).f0) ((rd_T27 x0 x4).f1)).bind fun bt106 => (if x3.length < 4398046511104 then (graftwoodlaw05_Few.l0 k x0 (x3 ++ [(⟨bt106.1, bt106.2⟩ : S27)]) (wrap64 (x4 + 1))) else (none))) else (none)) else (some x3)) else (some x3)
def graftwoodlaw05_Few.f (k : Nat) (l0 : List (S27)) : Option ((List (S27))) := graftwoodlaw05_Few.l0 k l0 ([] : List (S27)) 0
theorem graftwoodlaw05_Few.mono_l : ∀ k, (∀ y0 y1 y2, LeO (graftwoodlaw05_Few.l0 k y0 y1 y2) (graftwoodlaw05_Few.l0 (k + 1) y0 y1 y2))
 | 0 => fun _ _ _ r h => by simp [graftwoodlaw05_Few.l0] at h
 | k + 1 => by
  have ih0 := graftwoodlaw05_Few.mono_l k
  ·intro y0 y1 y2
   unfold graftwoodlaw05_Few.l0
   repeat' first | (with_reducible first | apply ih0 | apply LeO.refl | apply LeO.none | apply LeO.ite | refine LeO.bind ?_ (fun _ => ?_)) | apply ih0 | exact LeO.none _ | refine LeO.ite ?_ ?_ | refine LeO.bind ?_ (fun _ => ?_)
theorem graftwoodlaw05_Few.mono : ∀ a0 k, LeO (graftwoodlaw05_Few.f k a0) (graftwoodlaw05_Few.f (k + 1) a0) := by
 intro a0 k
 have ih0 := graftwoodlaw05_Few.mono_l k
 unfold graftwoodlaw05_Few.f
 repeat' first | (with_reducible first | apply ih0 | apply LeO.refl | apply LeO.none | apply LeO.ite | refine LeO.bind ?_ (fun _ => ?_)) | apply ih0 | exact LeO.none _ | refine LeO.ite ?_ ?_ | refine LeO.bind ?_ (fun _ => ?_)
theorem graftwoodlaw05_Few.calls (k : Nat) (A0 : Option Addr) (c0 : Nat) (l0 : List (S27)) (r : List (S27)) (w : World) (hr0 : Kd.C k27 w A0 l0.length l0) (hc0 : l0.length ≤ c0) (h : graftwoodlaw05_Few.f k l0 = some r) :
  Calls Tryz.prog 18 #[.slice A0 l0.length c0] w fun e w' => ∃ v0_ : Value, e = .returned (v0_) ∧ Kd.R k27 27 w' w.heap.size (fun _ => True) v0_ r ∧ Below w.heap.size w w' := by
 have hu27 := Tryz.underlying27
 have HR0 := Aside0.mk hr0
 have HC0 := Aside0.mk hc0
 clear hr0 hc0
 have HB := am (Below.refl w.heap.size w)
 unfold graftwoodlaw05_Few.f at h; have H := h; clear h
 have H' := Aside0.mk H
 clear H
 go_enter Tryz.func18, Tryz.ntmps18
 go_wp2
 go_loopg [3, 4] k (fun kq v3 v4 w' => ∃ (aN : List (S27)) (af : Int), v4 = .int .i64 af ∧ Aside0 (graftwoodlaw05_Few.l0 kq l0 aN af = some r) ∧ Aside0 (kq ≤ k) ∧ Aside0 (Kd.R k27 27 w' w.heap.size (fun _ => True) v3 aN) ∧ Aside0 (Below w.heap.size w w'))
 case atStart => exact ⟨(([] : List (S27))), (0), rfG, H', ⟨Nat.le_refl _⟩, ⟨rfM⟩, ⟨eTx HB.out⟩⟩
 case round =>
  clear H'
  obtain ⟨aN, af, rfl, HA, HK1, aX, HB⟩ := hrel
  cases gk with
  | zero => exact absurd HA.out (by simp [graftwoodlaw05_Few.l0])
  | succ k1 =>
   have H := HA.out
   clear HA
   simp only [graftwoodlaw05_Few.l0] at H
   replace H := ifP H; rcases H with ⟨c2, H⟩ | ⟨c2, H⟩
   ·have a2 := decide_eq_true c2
    clear c2
    replace H := ifP H; rcases H with ⟨c3, H⟩ | ⟨c3, H⟩
    ·have bc := decide_eq_true c3
     clear c3
     replace H := ifN H; obtain ⟨c4, H⟩ := H
     have bp := decide_eq_true c4
     clear c4
     replace H := bnd H; obtain ⟨⟨aY, aZ⟩, A5, H⟩ := H
     (try dsimp only at H)
     replace H := ifN H; obtain ⟨c6, H⟩ := H
     have LMc6 := Aside0.mk c6
     clear c6
     obtain ⟨bq, aQ⟩ : ∃ y_ : List (S27), y_ = (aN ++ [(⟨aY, aZ⟩ : S27)]) := ⟨_, rfl⟩
     replace H : (graftwoodlaw05_Few.l0 k1 l0 bq (wrap64 (af + 1))) = some r := by first | (rw [aQ]; with_reducible exact H) | (have H2_ := (Option.bind_some _ _).symm.trans H; rw [aQ]; with_reducible exact H2_) | (have H2_ := (Option.bind_some _ _).symm.trans H; with_reducible exact H2_) | with_reducible exact H | (rw [aQ]; exact H) | exact H
     have Ny108 := Aside0.mk aQ
     clear aQ
     have H' := Aside0.mk H
     clear H
     have p105 : 0 ≤ (af : Int) := of_decide_eq_true rfA
     have q105 : af < (l0.length : Int) := of_decide_eq_true rfA
     obtain ⟨ad105, e105, aI, aJ⟩ := at_T27 HR0.out af p105 q105
     cases e105
     replace aI := (HB.out.cell (World.block_lt_of_cell? w _ aI)).trans aI
     replace aJ := (HB.out.cell (World.block_lt_of_cell? w _ aJ)).trans aJ
     replace p105 := eq_true p105
     replace q105 := eq_true q105
     go_wp2_with (first | ((with_reducible refine gtC 5 ?_); refine xCb 20 Tryz.func5 (graftwoodlaw05_One.calls ((rd_T27 l0 af).f0) ((rd_T27 l0 af).f1) aY aZ _ A5.out) fun w7 hb => ?_; replace aX := am (rB aX.out hb); replace HB := am (sTx HB.out hb)) | ((with_reducible refine gate_builtin (b := .append) (xs := #[.tmp 15, .tmp 21]) rfl ?_); at_builtin; refine Kd.R_append k27 (w0 := w) w.heap.size rfl (.tmp 15) (.tmp 21) 22 27 (.agg #[(.string ⟨#[]⟩), (.string ⟨#[]⟩)]) 32 rfl Tryz.underlying22 info27 rfl (by decide) (by omega) u3 aN (⟨aY, aZ⟩ : S27) [.string aY, .string aZ] (fun _ => True) (fun _ => False) rfl rfl ?aP (fun _ hk => hk.elim) ?aF ?aO ?aB ?aS ?aL ?_; (case aP => exact k27_mkM _ _ _ (⟨aY, aZ⟩ : S27)); (case aB => exact (eTx HB.out)); (case aF => exact (fun _ _ => trivial)); (case aO => exact (rT aX.out)); (case aS => exact (below_size (eTx HB.out))); (case aL => have := LMc6.out; omega); intro cR w8 ho hb hg hat; rw [← Ny108.out] at ho; replace HB := am (hb); have br := am (ho); clear aX ho hb hg hat))
     go_roundg k1
     case measure => have := HK1.out; omega
     case rel => exact ⟨(bq), (wrap64 (af + 1)), rfG, H', ⟨by have := HK1.out; omega⟩, ⟨rT br.out⟩, ⟨eTx HB.out⟩⟩
    ·have bc := decide_eq_false c3
     clear c3
     obtain rfl := smI H
     go_wp2
     go_ret
     exact ⟨_, rfF, by (with_reducible repeat (first | apply Kd.R_alloc | apply Kd.R_drewN | apply Kd.R_drew)); exact aX.out, eTx HB.out⟩
   ·have a2 := decide_eq_false c2
    clear c2
    obtain rfl := smI H
    go_wp2
    go_ret
    exact ⟨_, rfF, by (with_reducible repeat (first | apply Kd.R_alloc | apply Kd.R_drewN | apply Kd.R_drew)); exact aX.out, eTx HB.out⟩

/-! ### graftwoodlaw08_Few: function 19 -/
def graftwoodlaw08_Few.f (a0 : ByteArray) : Option (ByteArray) := if (a0.size : Int) > 160 then (if 0 ≤ 160 then (if 160 ≤ (a0.size : Int) then (some (a0.extract 0 160)) else (none)) else (none)) else (some a0)
theorem graftwoodlaw08_Few.calls (a0 : ByteArray) (r : ByteArray) (w : World) (h : graftwoodlaw08_Few.f a0 = some r) :
  Calls Tryz.prog 19 #[.string a0] w fun e w' => e = .returned (.string r) ∧ Drawn0 w w' := by
 unfold graftwoodlaw08_Few.f at h; have H := h; clear h
 replace H := ifP H; rcases H with ⟨c2, H⟩ | ⟨c2, H⟩
 ·have a2 : decide (160 < (a0.size : Int)) = true := decide_eq_true c2
  have bb : decide (160 < a0.size) = true := decide_eq_true (by omega)
  clear c2
  replace H := ifN H; obtain ⟨c3, H⟩ := H
  have bc := eq_true c3
  have b_ := decide_eq_true c3
  clear c3
  replace H := ifN H; obtain ⟨c4, H⟩ := H
  have bp := eq_true c4
  have ca := decide_eq_true c4
  clear c4
  obtain rfl := smI H
  go_enter Tryz.func19, Tryz.ntmps19
  go_wp2
  go_ret
  exact ⟨rfG, rfD⟩
 ·have a2 : decide (160 < (a0.size : Int)) = false := decide_eq_false c2
  have bb : decide (160 < a0.size) = false := decide_eq_false (by omega)
  clear c2
  obtain rfl := smI H
  go_enter Tryz.func19, Tryz.ntmps19
  go_wp2
  go_ret
  exact ⟨rfG, rfD⟩

/-! ### graftwoodlaw12_Few: function 4 -/
def graftwoodlaw12_Few.l0 : Nat → Int → List (S27) → List ByteArray → List (S27) → List ByteArray → Option ((List (S27)) × List ByteArray)
 | 0, _, _, _, _, _ => none
 | k + 1, x4, a4, aK, aM, ay => if x4 < (aK.length : Int) then (if x4 < 24 then (if 0 ≤ x4 then ((graftwoodlaw08_Few.f (rdOf ByteArray.empty aK x4)).bind fun aV => (if ay.length < 8796093022208 then (graftwoodlaw12_Few.l0 k (wrap64 (x4 + 1)) a4 aK aM (ay ++ [aV])) else (none))) else (none)) else (some (aM, ay))) else (some (aM, ay))
def graftwoodlaw12_Few.f (k : Nat) (l0_0 : List (S27)) (l0_1 : List ByteArray) : Option ((List (S27)) × List ByteArray) := (graftwoodlaw05_Few.f k l0_0).bind fun ai => (graftwoodlaw12_Few.l0 k 0 l0_0 l0_1 ai ([] : List ByteArray))
theorem graftwoodlaw12_Few.mono_l : ∀ k, (∀ y0 y1 y2 y3 y4, LeO (graftwoodlaw12_Few.l0 k y0 y1 y2 y3 y4) (graftwoodlaw12_Few.l0 (k + 1) y0 y1 y2 y3 y4))
 | 0 => fun _ _ _ _ _ r h => by simp [graftwoodlaw12_Few.l0] at h
 | k + 1 => by
  have ih0 := graftwoodlaw12_Few.mono_l k
  ·intro y0 y1 y2 y3 y4
   unfold graftwoodlaw12_Few.l0
   repeat' first | (with_reducible first | apply ih0 | apply graftwoodlaw05_Few.mono | apply LeO.refl | apply LeO.none | apply LeO.ite | refine LeO.bind ?_ (fun _ => ?_)) | apply ih0 | apply graftwoodlaw05_Few.mono | exact LeO.none _ | refine LeO.ite ?_ ?_ | refine LeO.bind ?_ (fun _ => ?_)
theorem graftwoodlaw12_Few.mono : ∀ a0 a1 k, LeO (graftwoodlaw12_Few.f k a0 a1) (graftwoodlaw12_Few.f (k + 1) a0 a1) := by
 intro a0 a1 k
 have ih0 := graftwoodlaw12_Few.mono_l k
 unfold graftwoodlaw12_Few.f
 repeat' first | (with_reducible first | apply ih0 | apply graftwoodlaw05_Few.mono | apply LeO.refl | apply LeO.none | apply LeO.ite | refine LeO.bind ?_ (fun _ => ?_)) | apply ih0 | apply graftwoodlaw05_Few.mono | exact LeO.none _ | refine LeO.ite ?_ ?_ | refine LeO.bind ?_ (fun _ => ?_)
def graftwoodlaw12_Few.T5 : Bool × List (List Nat × List Nat) := (true, [([], []), ([0], [0]), ([], []), ([2], [2]), ([], []), ([3, 4], [3, 4]), ([5], [5]), ([6], [6]), ([7], [7]), ([1, 8, 7], [1, 8]), ([0, 1, 2, 3, 4, 5, 6, 7, 8, 9], []), ([10, 9, 9, 0, 1, 2, 3, 4, 5, 6, 7, 8, 9], [9, 10])])
def graftwoodlaw12_Few.B5 : List Nat := [0, 1, 0, 4, 0, 28, 60, 124, 252, 511, 1023, 2047]
theorem graftwoodlaw12_Few.tab5 : rtab .any (opsOf Tryz.f4 5) = graftwoodlaw12_Few.T5 := by kernel_rfl
theorem graftwoodlaw12_Few.bits5 : waitsOk graftwoodlaw12_Few.T5.2 graftwoodlaw12_Few.B5 = true := by kernel_rfl
theorem graftwoodlaw12_Few.calls (k : Nat) (aA : Option Addr) (aC : Nat) (l0_0 : List (S27)) (aR : Option Addr) (aD : Nat) (l0_1 : List ByteArray) (r1 : List (S27)) (r2 : List ByteArray) (w : World) (hr0_0 : Kd.C k27 w aA l0_0.length l0_0) (hc0_0 : l0_0.length ≤ aC) (hr0_1 : Kd.C Kd.string w aR l0_1.length l0_1) (hc0_1 : l0_1.length ≤ aD) (h : graftwoodlaw12_Few.f k l0_0 l0_1 = some (r1, r2)) :
  Calls Tryz.prog 4 #[.agg #[.slice aA l0_0.length aC, .slice aR l0_1.length aD]] w fun e w' => ∃ v0_ v1_ : Value, e = .returned (.agg #[v0_, v1_]) ∧ Kd.R k27 27 w' w.heap.size (fun _ => True) v0_ r1 ∧ Kd.R Kd.string 9 w' w.heap.size (fun _ => True) v1_ r2 ∧ Below w.heap.size w w' := by
 have hu25 := Tryz.underlying25
 have bs := Aside0.mk hr0_0
 have bt := Aside0.mk hc0_0
 clear hr0_0 hc0_0
 have bu := Aside0.mk hr0_1
 have cl := Aside0.mk hc0_1
 clear hr0_1 hc0_1
 have HB := am (Below.refl w.heap.size w)
 unfold graftwoodlaw12_Few.f at h; have H := h; clear h
 replace H := bnd H; obtain ⟨ai, A2, H⟩ := H
 have H' := Aside0.mk H
 clear H
 go_enter Tryz.func4, Tryz.ntmps4
 go_wp2_with (first | ((with_reducible refine gtD 1 ?_); refine xBx 1 25 #[.slice aA l0_0.length aC, .slice aR l0_1.length aD] ?_; intro aq hg w3 hbox hb; have aa := am (hbox); have cm := am ((gTx hg HB.out)); have cn := am ((gTx hg HB.out)); replace HB := am (sTx HB.out hb); clear hb hbox hg) | ((with_reducible refine gtD 2 ?_); refine xBx 2 25 #[.slice none 0 0, .slice none 0 0] ?_; intro ak hg w4 hbox hb; have ae := am (hbox); have co := am ((gTx hg HB.out)); have cp := am ((gTx hg HB.out)); have ar := am ((nT aa.out hg)); have au := am ((mT aa.out hg)); replace aa := am (bB aa.out hb); replace HB := am (sTx HB.out hb); clear hb hbox hg; have cS := ar.out; have cU := au.out; obtain ⟨be, bf, bg, bh⟩ := bxB aa) | ((with_reducible refine gtC 18 ?_); refine xCl 7 Tryz.func18 (graftwoodlaw05_Few.calls k _ _ l0_0 ai _ (cW (Kd.C_below bs.out HB.out)) bt.out A2.out) ?_; rintro e w7 ⟨cV, rfl, ho0, hb⟩; refine ⟨_, rfl, ?_⟩; have aW := am (Kd.R_lower ho0 (below_size (eTx HB.out))); replace aa := am (bB aa.out hb); replace ae := am (bB ae.out hb); replace HB := am (sTx HB.out hb); obtain ⟨Ao8, co8, eo8⟩ := Kd.R_slice aW.out; subst eo8) | ((with_reducible refine gtD 3 ?_); refine xBx 3 25 #[.slice none 0 0, .slice none 0 0] ?_; intro an hg w9 hbox hb; replace aW := am (rB aW.out hb); have ab := am (hbox); have cq := am ((gTx hg HB.out)); have cr := am ((gTx hg HB.out)); have ag := am ((nT aa.out hg)); have ap := am ((mT aa.out hg)); have aj := am ((nT ae.out hg)); have av := am ((mT ae.out hg)); replace aa := am (bB aa.out hb); replace ae := am (bB ae.out hb); replace HB := am (sTx HB.out hb); clear hb hbox hg; have ct := ap.out; have cu := ag.out; have cv := av.out; have cw := aj.out; obtain ⟨a5, a6, a7, a8⟩ := bxB ab))
 go_loopg [4] k (fun kq v4 w' => ∃ (af : Int) (ac : List ByteArray) (u117001 : Value), v4 = .int .i64 af ∧ Aside0 (graftwoodlaw12_Few.l0 kq af l0_0 l0_1 ai ac = some (r1, r2)) ∧ Aside0 (kq ≤ k) ∧ Aside0 (Kd.R k27 27 w' w.heap.size (fun _ => True) (.slice Ao8 ai.length co8) ai) ∧ Aside0 (Kd.R Kd.string 9 w' w.heap.size (fun _ => True) u117001 ac) ∧ Aside0 (w'.heap[aq]? = some (.cells #[(.slice aA l0_0.length aC), (.slice aR l0_1.length aD)] 25 (0, 0))) ∧ Aside0 (w'.heap[ak]? = some (.cells #[(.slice none 0 0), (.slice none 0 0)] 25 (0, 0))) ∧ Aside0 (w'.heap[an]? = some (.cells #[(.slice Ao8 ai.length co8), u117001] 25 (0, 0))) ∧ Aside0 (Below w.heap.size w w'))
 case atStart => exact ⟨(0), (([] : List ByteArray)), (.slice none 0 0), rfG, H', ⟨Nat.le_refl _⟩, ⟨by (with_reducible repeat (first | apply Kd.R_alloc | apply Kd.R_drewN | apply Kd.R_drew)); exact Kd.R_mono (Kd.R_far (p := ⟨an, 1, none⟩) (Kd.R_far (p := ⟨an, 0, none⟩) (Kd.R_types aW.out ab.out (by decide)) (fun _ hk => hk.2) (.slice Ao8 ai.length co8)) (fun _ hk => hk.2) (.slice none 0 0)) (fun _ hk => trivial)⟩, ⟨rfM⟩, ⟨kBk⟩, ⟨kBk⟩, ⟨kBk⟩, ⟨eTx HB.out⟩⟩
 case round =>
  clear H'
  obtain ⟨af, ac, u117001, rfl, HA, HK1, ah, ad, aa, ae, ab, HB⟩ := hrel
  cases gk with
  | zero => exact absurd HA.out (by simp [graftwoodlaw12_Few.l0])
  | succ k1 =>
   have H := HA.out
   clear HA
   simp only [graftwoodlaw12_Few.l0] at H
   replace H := ifP H; rcases H with ⟨c13, H⟩ | ⟨c13, H⟩
   ·have bv := decide_eq_true c13
    clear c13
    replace H := ifP H; rcases H with ⟨c14, H⟩ | ⟨c14, H⟩
    ·have bw := decide_eq_true c14
     clear c14
     replace H := ifN H; obtain ⟨c15, H⟩ := H
     have cx := decide_eq_true c15
     clear c15
     replace H := bnd H; obtain ⟨aV, A16, H⟩ := H
     replace H := ifN H; obtain ⟨c17, H⟩ := H
     have LMc17 := Aside0.mk c17
     clear c17
     obtain ⟨a3, aU⟩ : ∃ y_ : List ByteArray, y_ = (ac ++ [aV]) := ⟨_, rfl⟩
     replace H : (graftwoodlaw12_Few.l0 k1 (wrap64 (af + 1)) l0_0 l0_1 ai a3) = some (r1, r2) := by first | (rw [aU]; with_reducible exact H) | (have H2_ := (Option.bind_some _ _).symm.trans H; rw [aU]; with_reducible exact H2_) | (have H2_ := (Option.bind_some _ _).symm.trans H; with_reducible exact H2_) | with_reducible exact H | (rw [aU]; exact H) | exact H
     have Ny119 := Aside0.mk aU
     clear aU
     have H' := Aside0.mk H
     clear H
     have cy := ar.out
     have cz := au.out
     have cA := ag.out
     have cB := ap.out
     obtain ⟨bC, bD, bE, bF⟩ := bxB aa
     try go_wp2
     replace ah := am (Kd.R_drew ah.out)
     replace ad := am (Kd.R_drew ad.out)
     replace aa := am (blk_drew aa.out)
     replace ae := am (blk_drew ae.out)
     replace ab := am (blk_drew ab.out)
     replace HB := am (below_drew1 HB.out)
     have p117 : 0 ≤ (af : Int) := of_decide_eq_true rfA
     have q117 : af < (l0_1.length : Int) := of_decide_eq_true rfA
     obtain ⟨ad117, e117, aw⟩ := Kd.at_string bu.out af p117 q117
     have hw117_0 := aw
     cases e117
     replace aw := (HB.out.cell (World.block_lt_of_cell? w _ aw)).trans aw
     replace p117 := eq_true p117
     replace q117 := eq_true q117
     refine start_ (n := 12) (S := fun w' => w'.cell? ⟨an, 0, none⟩ = some (.slice Ao8 ai.length co8) ∧ w'.cell? ⟨an, 1, none⟩ = some (u117001) ∧ w'.cell? ⟨aq, 0, none⟩ = some (.slice aA l0_0.length aC) ∧ w'.cell? ⟨aq, 1, none⟩ = some (.slice (some ad117) l0_1.length aD) ∧ w'.cell? (ad117.add (af).toNat) = some (.string (rdOf ByteArray.empty l0_1 af))) (ds := [11]) (bA 12 0) rfK rfl rfK ⟨cT ab 0, cT ab 1, cT aa 0, cT aa 1, ((HB.out.cell (World.block_lt_of_cell? w _ hw117_0)).trans hw117_0)⟩ (fun hHeld => ?_); refine with_tabW graftwoodlaw12_Few.tab5 graftwoodlaw12_Few.bits5 (fun HT_ HW_ => ?_)
     generalize wr.drew = w21 at ah ad aa ae ab HB aw hHeld ⊢
     refine pT 0 20 (bA 12 1) HT_.out ?_
     refine pT 2 22 (bA 12 5) HT_.out ?_
     refine pT 4 24 (bA 12 21) HT_.out ?_
     refine tT 1 21 (bA 12 23) HT_.out HW_.out hHeld ?_ (hy := by rintro w' ⟨s0, s1, s2, s3, s4⟩; go_simp; with_reducible rfl)
     refine tT 3 23 (bA 12 31) HT_.out HW_.out hHeld ?_ (hy := by rintro w' ⟨s0, s1, s2, s3, s4⟩; go_simp; with_reducible rfl)
     refine pT 5 25 (bA 12 63) HT_.out ?_
     refine tT 6 26 (bA 12 127) HT_.out HW_.out hHeld ?_ (hy := by rintro w' ⟨s0, s1, s2, s3, s4⟩; go_simp; with_reducible rfl)
     refine oT 7 (bA 12 255) HT_.out fun K hK => ?_
     refine gS Tryz.func19 #[.string (rdOf ByteArray.empty l0_1 af)] ?_
     with_reducible refine (graftwoodlaw08_Few.calls (rdOf ByteArray.empty l0_1 af) aV _ A16.out).mono ?_
     rintro e w' ⟨rfl, ⟨nd, rfl⟩⟩
     refine ⟨_, rfl, ?_⟩
     refine hK.out _ _ ⟨cT ab 0, cT ab 1, cT aa 0, cT aa 1, ((HB.out.cell (World.block_lt_of_cell? w _ hw117_0)).trans hw117_0)⟩ (fun hHeld => ?_)
     clear hK K
     refine mN 27 ?_
     refine oT 8 (bA 12 511) HT_.out fun K hK => ?_
     refine value_ (w1 := ?_) (v := ?_) (by rfl) rfl ?_ ?_
     rotate_left 2
     ·go_simp
      constructor
      ·rfl
      ·rfl
     refine hK.out _ _ ⟨(blk_cell (blk_alloc ab.out _) 0).trans rfl, (blk_cell (blk_alloc ab.out _) 1).trans rfl, (blk_cell (blk_alloc aa.out _) 0).trans rfl, (blk_cell (blk_alloc aa.out _) 1).trans rfl, (World.cell?_alloc_lt _ _ _ (World.block_lt_of_cell? _ _ (((HB.out.cell (World.block_lt_of_cell? w _ hw117_0)).trans hw117_0)))).trans (((HB.out.cell (World.block_lt_of_cell? w _ hw117_0)).trans hw117_0))⟩ (fun hHeld => ?_)
     clear hK K
     refine mN 28 ?_
     refine oT 9 (bA 12 1023) HT_.out fun K hK => ?_
     refine Kd.R_append_step Kd.string (w0 := w) w.heap.size (by rfl) (.tmp 21) (.tmp 28) 23 9 (.string ⟨#[]⟩) 16 rfl Tryz.underlying23 info9 rfl (by decide) (by omega) u117001 ac aV [.string aV] (fun _ => True) (fun _ => False) rfl rfl ?aP (fun _ hk => hk.elim) ?aF ?aO ?aB ?aS ?aL ?_
     (case aP => exact rfl)
     (case aB => exact (eTx HB.out))
     (case aF => exact (fun _ _ => trivial))
     (case aO => exact (rT ad.out))
     (case aS => exact (below_size (eTx HB.out)))
     (case aL => have := LMc17.out; omega)
     intro cX w22 ho hb hg hat
     rw [← Ny119.out] at ho
     replace ah := am (Kd.R_over' (rT ah.out) (Kd.R_typed (rT ad.out)) (by decide) hg)
     replace aa := am (blk_grown (g := aq) (o := .cells #[.slice aA l0_0.length aC, .slice (some ad117) l0_1.length aD] 25 (0, 0)) (bT aa.out) hg (Kd.R_ne ad.out aa.out (by decide)))
     replace ae := am (blk_grown (g := ak) (o := .cells #[.slice none 0 0, .slice none 0 0] 25 (0, 0)) (bT ae.out) hg (Kd.R_ne ad.out ae.out (by decide)))
     replace ab := am (blk_grown (g := an) (o := .cells #[.slice Ao8 ai.length co8, u117001] 25 (0, 0)) (bT ab.out) hg (Kd.R_ne ad.out ab.out (by decide)))
     replace HB := am (hb)
     have a_ := am (ho)
     clear ad ho hb hg hat
     obtain ⟨bi, bj, bz⟩ := Kd.R_slice a_.out
     (first | subst bz | (injection bz with f1_ f2_ f3_; have f4_ := f1_.symm; have f5_ := f3_.symm; clear f1_ f2_ f3_; subst f4_; subst f5_))
     refine hK.out _ _ ⟨cT ab 0, cT ab 1, cT aa 0, cT aa 1, ((HB.out.cell (World.block_lt_of_cell? w _ hw117_0)).trans hw117_0)⟩ (fun hHeld => ?_)
     clear hK K
     refine mN 29 ?_
     refine pT 10 30 (bA 12 2047) HT_.out ?_
     refine last_ (i := 11) (N := none) (bA 12 4095) rfl rfl (one_of HT_.out rfK) (by decide) (fun K hK => ?_)
     have cY : w22.cell? ⟨an, 1, none⟩ = some (u117001) := cT ab 1
     have cC := blk_frozen ab.out 1
     have bG := ag.out
     have bH := aj.out
     have bI := ap.out
     have bJ := av.out
     refine skip_ (w1 := ?_) (by rfl) rfl ?_ ?_
     rotate_left
     ·go_simp
      rfl
     refine hK.out _ _ ?_
     clear hK K
     refine done_ (done_of HT_.out rfK) ?_
     try go_wp2
     go_roundg k1
     case measure => have := HK1.out; omega
     case rel => exact ⟨(wrap64 (af + 1)), (a3), (.slice bi a3.length bj), rfG, H', ⟨by have := HK1.out; omega⟩, ⟨by (with_reducible repeat (first | apply Kd.R_alloc | apply Kd.R_drewN | apply Kd.R_drew)); exact Kd.R_mono (Kd.R_far (p := ⟨an, 1, none⟩) (Kd.R_types ah.out ab.out (by decide)) (fun _ hk => hk.2) (.slice bi a3.length bj)) (fun _ hk => trivial)⟩, ⟨by (with_reducible repeat (first | apply Kd.R_alloc | apply Kd.R_drewN | apply Kd.R_drew)); exact Kd.R_mono (Kd.R_far (p := ⟨an, 1, none⟩) (Kd.R_types a_.out ab.out (by decide)) (fun _ hk => hk.2) (.slice bi a3.length bj)) (fun _ hk => trivial)⟩, ⟨kBk⟩, ⟨kBk⟩, ⟨kBk⟩, ⟨eTx HB.out⟩⟩
    ·have bw := decide_eq_false c14
     clear c14
     replace H := prB H; obtain ⟨rfl, rfl⟩ := H
     have cD := ar.out
     have cE := au.out
     have cF := ag.out
     have cG := ap.out
     obtain ⟨bK, bL, bM, bN⟩ := bxB aa
     have cH := av.out
     have cI := aj.out
     obtain ⟨bO, bP, bQ, bR⟩ := bxB ab
     obtain ⟨bS, bU, bV, bW⟩ := bxB ae
     obtain ⟨bk, bl, cf⟩ := Kd.R_slice ad.out
     subst cf
     go_wp2
     refine bodyPost_ret (results_cell_row rfl _ _ ak 25 #[.slice Ao8 ai.length co8, .slice bk ac.length bl] (0, 0) _ rfl kBk Tryz.underlying25 rfl rfK) rfl ?_
     exact ⟨_, _, rfF, by (with_reducible repeat (first | apply Kd.R_alloc | apply Kd.R_drewN | apply Kd.R_drew)); exact Kd.R_mono (Kd.R_far (p := ⟨ak, 1, none⟩) (Kd.R_far (p := ⟨ak, 0, none⟩) (Kd.R_types ah.out ae.out (by decide)) (fun _ hk => hk.2) (.slice Ao8 ai.length co8)) (fun _ hk => hk.2) (.slice bk ac.length bl)) (fun _ hk => trivial), by (with_reducible repeat (first | apply Kd.R_alloc | apply Kd.R_drewN | apply Kd.R_drew)); exact Kd.R_mono (Kd.R_far (p := ⟨ak, 1, none⟩) (Kd.R_far (p := ⟨ak, 0, none⟩) (Kd.R_types ad.out ae.out (by decide)) (fun _ hk => hk.2) (.slice Ao8 ai.length co8)) (fun _ hk => hk.2) (.slice bk ac.length bl)) (fun _ hk => trivial), eTx HB.out⟩
   ·have bv := decide_eq_false c13
    clear c13
    replace H := prB H; obtain ⟨rfl, rfl⟩ := H
    have cJ := ar.out
    have cK := au.out
    have cL := ag.out
    have cM := ap.out
    obtain ⟨bX, bZ, b0, b1⟩ := bxB aa
    have cN := av.out
    have cO := aj.out
    obtain ⟨b2, b3, b4, b5⟩ := bxB ab
    obtain ⟨b6, b7, b8, b9⟩ := bxB ae
    obtain ⟨bm, bo, cg⟩ := Kd.R_slice ad.out
    subst cg
    go_wp2
    refine bodyPost_ret (results_cell_row rfl _ _ ak 25 #[.slice Ao8 ai.length co8, .slice bm ac.length bo] (0, 0) _ rfl kBk Tryz.underlying25 rfl rfK) rfl ?_
    exact ⟨_, _, rfF, by (with_reducible repeat (first | apply Kd.R_alloc | apply Kd.R_drewN | apply Kd.R_drew)); exact Kd.R_mono (Kd.R_far (p := ⟨ak, 1, none⟩) (Kd.R_far (p := ⟨ak, 0, none⟩) (Kd.R_types ah.out ae.out (by decide)) (fun _ hk => hk.2) (.slice Ao8 ai.length co8)) (fun _ hk => hk.2) (.slice bm ac.length bo)) (fun _ hk => trivial), by (with_reducible repeat (first | apply Kd.R_alloc | apply Kd.R_drewN | apply Kd.R_drew)); exact Kd.R_mono (Kd.R_far (p := ⟨ak, 1, none⟩) (Kd.R_far (p := ⟨ak, 0, none⟩) (Kd.R_types ad.out ae.out (by decide)) (fun _ hk => hk.2) (.slice Ao8 ai.length co8)) (fun _ hk => hk.2) (.slice bm ac.length bo)) (fun _ hk => trivial), eTx HB.out⟩

end Go.Proofs.YtomjppafgalaoaaGreatDoor.P
