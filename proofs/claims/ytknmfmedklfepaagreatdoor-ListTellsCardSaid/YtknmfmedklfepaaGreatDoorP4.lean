-- half the indentation
import Derived.Test.YtknmfmedklfepaaGreatDoorSqz
import Derived.Test.YtknmfmedklfepaaGreatDoorP0
namespace Go.Proofs.YtknmfmedklfepaaGreatDoor.P
open Go.RowKit Go.Proofs.YtknmfmedklfepaaGreatDoorW.PrintWords Go.Proofs.YtknmfmedklfepaaGreatDoorW.PrintLast Go.Proofs.YtknmfmedklfepaaGreatDoorW.PrintMore
attribute [local go_sem] max2_int min2_int max_two min_two max_three min_three max_four min_four
set_option linter.unusedVariables false
set_option linter.unusedSimpArgs false
set_option maxHeartbeats 8000000
set_option maxRecDepth 100000

/-! ### graftwoodlaw01_Few: function 9 -/
def graftwoodlaw01_Few.f (a0 : ByteArray) : Option (ByteArray) := if (a0.size : Int) > 400 then (if 0 ≤ 400 then (if 400 ≤ (a0.size : Int) then (some (a0.extract 0 400)) else (none)) else (none)) else (some a0)
theorem graftwoodlaw01_Few.calls (a0 : ByteArray) (r : ByteArray) (w : World) (h : graftwoodlaw01_Few.f a0 = some r) :
  Calls Tryz.prog 9 #[.string a0] w fun e w' => e = .returned (.string r) ∧ Drawn0 w w' := by
 unfold graftwoodlaw01_Few.f at h; have H := h; clear h
 replace H := ifP H; rcases H with ⟨c2, H⟩ | ⟨c2, H⟩
 ·have a7 : decide (400 < (a0.size : Int)) = true := decide_eq_true c2
  have bF : decide (400 < a0.size) = true := decide_eq_true (by omega)
  clear c2
  replace H := ifN H; obtain ⟨c3, H⟩ := H
  have ay := eq_true c3
  have b4 := decide_eq_true c3
  clear c3
  replace H := ifN H; obtain ⟨c4, H⟩ := H
  have bG := eq_true c4
  have b5 := decide_eq_true c4
  clear c4
  obtain rfl := smI H
  go_enter Tryz.func9, Tryz.ntmps9
  go_wp2
  go_ret
  exact ⟨rfG, rfD⟩
 ·have a7 : decide (400 < (a0.size : Int)) = false := decide_eq_false c2
  have bF : decide (400 < a0.size) = false := decide_eq_false (by omega)
  clear c2
  obtain rfl := smI H
  go_enter Tryz.func9, Tryz.ntmps9
  go_wp2
  go_ret
  exact ⟨rfG, rfD⟩

/-! ### graftwoodlaw05_One: function 29 -/
def graftwoodlaw05_One.f (a0_0 : ByteArray) (a0_1 : ByteArray) : Option (ByteArray × ByteArray) := (graftwoodlaw01_Few.f a0_0).bind fun aA => ((graftwoodlaw01_Few.f a0_1).bind fun aC => (some (aA, aC)))
def graftwoodlaw05_One.T1 : Bool × List (List Nat × List Nat) := (true, [([], []), ([0], [0]), ([1], [1]), ([], []), ([3], [3]), ([4, 2], [4]), ([2, 5], [2, 5]), ([6, 5, 0, 1, 2, 3, 4, 5, 6], [6])])
def graftwoodlaw05_One.B1 : List Nat := [0, 1, 3, 0, 8, 31, 63, 127]
theorem graftwoodlaw05_One.tab1 : rtab .any (opsOf Tryz.f29 1) = graftwoodlaw05_One.T1 := by kernel_rfl
theorem graftwoodlaw05_One.bits1 : waitsOk graftwoodlaw05_One.T1.2 graftwoodlaw05_One.B1 = true := by kernel_rfl
theorem graftwoodlaw05_One.calls (a0_0 : ByteArray) (a0_1 : ByteArray) (r1 : ByteArray) (r2 : ByteArray) (w : World) (h : graftwoodlaw05_One.f a0_0 a0_1 = some (r1, r2)) :
  Calls Tryz.prog 29 #[.agg #[.string a0_0, .string a0_1]] w fun e w' => e = .returned (.agg #[.string r1, .string r2]) ∧ Below w.heap.size w w' := by
 have hu55 := Tryz.underlying55
 have HB := am (Below.refl w.heap.size w)
 unfold graftwoodlaw05_One.f at h; have H := h; clear h
 replace H := bnd H; obtain ⟨aA, A2, H⟩ := H
 replace H := bnd H; obtain ⟨aC, A3, H⟩ := H
 replace H := prB H; obtain ⟨rfl, rfl⟩ := H
 go_enter Tryz.func29, Tryz.ntmps29
 try go_wp2_with (first | ((with_reducible refine gtD 1 ?_); refine xBx 1 55 #[.string a0_0, .string a0_1] ?_; intro a5 hg w4 hbox hb; have an := am (hbox); have bS := am ((gTx hg HB.out)); have bU := am ((gTx hg HB.out)); replace HB := am (sTx HB.out hb); clear hb hbox hg) | ((with_reducible refine gtD 2 ?_); refine xBx 2 55 #[.string (⟨#[]⟩ : ByteArray), .string (⟨#[]⟩ : ByteArray)] ?_; intro ax hg w5 hbox hb; have ar := am (hbox); have bV := am ((gTx hg HB.out)); have bW := am ((gTx hg HB.out)); have ak := am ((nT an.out hg)); have az := am ((mT an.out hg)); replace an := am (bB an.out hb); replace HB := am (sTx HB.out hb); clear hb hbox hg))
 replace an := am (blk_drew an.out)
 replace ar := am (blk_drew ar.out)
 replace HB := am (below_drew1 HB.out)
 refine start_ (n := 8) (S := fun w' => w'.cell? ⟨a5, 0, none⟩ = some (.string a0_0) ∧ w'.cell? ⟨a5, 1, none⟩ = some (.string a0_1)) (ds := []) (bA 8 0) rfK rfl rfK ⟨cT an 0, cT an 1⟩ (fun hHeld => ?_); refine with_tabW graftwoodlaw05_One.tab1 graftwoodlaw05_One.bits1 (fun HT_ HW_ => ?_)
 generalize w5.drew = w6 at an ar HB hHeld ⊢
 refine pT 0 3 (bA 8 1) HT_.out ?_
 refine pT 3 6 (bA 8 9) HT_.out ?_
 refine tT 1 4 (bA 8 11) HT_.out HW_.out hHeld ?_ (hy := by rintro w' ⟨s0, s1⟩; go_simp; with_reducible rfl)
 refine tT 4 7 (bA 8 27) HT_.out HW_.out hHeld ?_ (hy := by rintro w' ⟨s0, s1⟩; go_simp; with_reducible rfl)
 refine oT 2 (bA 8 31) HT_.out fun K hK => ?_
 refine gS Tryz.func9 #[.string a0_0] ?_
 with_reducible refine (graftwoodlaw01_Few.calls a0_0 aA _ A2.out).mono ?_
 rintro e w' ⟨rfl, ⟨nd, rfl⟩⟩
 refine ⟨_, rfl, ?_⟩
 refine hK.out _ _ ⟨cT an 0, cT an 1⟩ (fun hHeld => ?_)
 clear hK K
 refine mN 5 ?_
 refine oT 5 (bA 8 63) HT_.out fun K hK => ?_
 refine gS Tryz.func9 #[.string a0_1] ?_
 with_reducible refine (graftwoodlaw01_Few.calls a0_1 aC _ A3.out).mono ?_
 rintro e w' ⟨rfl, ⟨nd, rfl⟩⟩
 refine ⟨_, rfl, ?_⟩
 refine hK.out _ _ ⟨cT an 0, cT an 1⟩ (fun hHeld => ?_)
 clear hK K
 refine mN 8 ?_
 refine pT 6 9 (bA 8 127) HT_.out ?_
 refine oT 7 (bA 8 255) HT_.out fun K hK => ?_
 obtain ⟨hs7, b6⟩ := bxA ar
 have bH := ak.out
 have bI := az.out
 have hs8 : w6.cell? ⟨ax, 1, none⟩ = some (.string (⟨#[]⟩ : ByteArray)) := cT ar 1
 have b7 := blk_frozen ar.out 1
 have bJ := ak.out
 have bK := az.out
 refine skip_ (w1 := ?_) (by rfl) rfl ?_ ?_
 rotate_left
 ·go_simp
  rfl
 refine hK.out _ _ kCl (fun hHeld => ?_)
 clear hK K
 refine done_ (done_of HT_.out rfK) ?_
 try go_wp2
 refine bodyPost_ret (results_cell_row rfl _ _ ax 55 #[.string aA, .string aC] (0, 0) _ rfl kBk Tryz.underlying55 rfl rfK) rfl ?_
 exact ⟨rfF, eTx HB.out⟩

/-! ### graftwoodlaw05_Few: function 7 -/
def graftwoodlaw05_Few.l0 : Nat → List (S55) → List (S55) → Int → Option ((List (S55)))
 | 0, _, _, _ => none
 | k + 1, x0, x3, x4 => if x4 < (x0.length : Int) then (if x4 < 24 then (if 0 ≤ x4 then ((graftwoodlaw05_One.f ((rd_T55 x0 x4).f0) ((rd_T55 x0 x4).f1)).bind fun bt106 => (if x3.length < 4398046511104 then (graftwoodlaw05_Few.l0 k x0 (x3 ++ [(⟨bt106.1, bt106.2⟩ : S55)]) (wrap64 (x4 + 1))) else (none))) else (none)) else (some x3)) else (some x3)
def graftwoodlaw05_Few.f (k : Nat) (l0 : List (S55)) : Option ((List (S55))) := graftwoodlaw05_Few.l0 k l0 ([] : List (S55)) 0
theorem graftwoodlaw05_Few.mono_l : ∀ k, (∀ y0 y1 y2, LeO (graftwoodlaw05_Few.l0 k y0 y1 y2) (graftwoodlaw05_Few.l0 (k + 1) y0 y1 y2))
 | 0 => fun _ _ _ r h => by simp [graftwoodlaw05_Few.l0] at h
 | k + 1 => by
  have ih0 := graftwoodlaw05_Few.mono_l k
  ·intro y0 y1 y2
   unfold graftwoodlaw05_Few.l0
   repeat' first | (with_reducible first | apply ih0 | apply LeO.refl | apply LeO.none | apply LeO.ite | refine LeO.bind ?_ (fun _ => ?_)) | apply ih0 | exact LeO.none _ | refine LeO.ite ?_ ?_ | refine LeO.bind ?_ (fun _ => ?_)
theorem graftwoodlaw05_Few.mono : ∀ a0 k, LeO (graftwoodlaw05_Few.f k a0) (graftwoodlaw05_Few.f (k + 1) a0) := by
 intro a0 k
 have ih0 := graftwoodlaw05_Few.mono_l k
 unfold graftwoodlaw05_Few.f
 repeat' first | (with_reducible first | apply ih0 | apply LeO.refl | apply LeO.none | apply LeO.ite | refine LeO.bind ?_ (fun _ => ?_)) | apply ih0 | exact LeO.none _ | refine LeO.ite ?_ ?_ | refine LeO.bind ?_ (fun _ => ?_)
theorem graftwoodlaw05_Few.calls (k : Nat) (A0 : Option Addr) (c0 : Nat) (l0 : List (S55)) (r : List (S55)) (w : World) (hr0 : Kd.C k55 w A0 l0.length l0) (hc0 : l0.length ≤ c0) (h : graftwoodlaw05_Few.f k l0 = some r) :
  Calls Tryz.prog 7 #[.slice A0 l0.length c0] w fun e w' => ∃ v0_ : Value, e = .returned (v0_) ∧ Kd.R k55 55 w' w.heap.size (fun _ => True) v0_ r ∧ Below w.heap.size w w' := by
 have hu55 := Tryz.underlying55
 have HR0 := Aside0.mk hr0
 have HC0 := Aside0.mk hc0
 clear hr0 hc0
 have HB := am (Below.refl w.heap.size w)
 unfold graftwoodlaw05_Few.f at h; have H := h; clear h
 have H' := Aside0.mk H
 clear H
 go_enter Tryz.func7, Tryz.ntmps7
 go_wp2
 go_loopg [3, 4] k (fun kq v3 v4 w' => ∃ (aj : List (S55)) (ab : Int), v4 = .int .i64 ab ∧ Aside0 (graftwoodlaw05_Few.l0 kq l0 aj ab = some r) ∧ Aside0 (kq ≤ k) ∧ Aside0 (Kd.R k55 55 w' w.heap.size (fun _ => True) v3 aj) ∧ Aside0 (Below w.heap.size w w'))
 case atStart => exact ⟨(([] : List (S55))), (0), rfG, H', ⟨Nat.le_refl _⟩, ⟨rfM⟩, ⟨eTx HB.out⟩⟩
 case round =>
  clear H'
  obtain ⟨aj, ab, rfl, HA, HK1, af, HB⟩ := hrel
  cases gk with
  | zero => exact absurd HA.out (by simp [graftwoodlaw05_Few.l0])
  | succ k1 =>
   have H := HA.out
   clear HA
   simp only [graftwoodlaw05_Few.l0] at H
   replace H := ifP H; rcases H with ⟨c2, H⟩ | ⟨c2, H⟩
   ·have a7 := decide_eq_true c2
    clear c2
    replace H := ifP H; rcases H with ⟨c3, H⟩ | ⟨c3, H⟩
    ·have ay := decide_eq_true c3
     clear c3
     replace H := ifN H; obtain ⟨c4, H⟩ := H
     have bG := decide_eq_true c4
     clear c4
     replace H := bnd H; obtain ⟨⟨aV, aW⟩, A5, H⟩ := H
     (try dsimp only at H)
     replace H := ifN H; obtain ⟨c6, H⟩ := H
     have LMc6 := Aside0.mk c6
     clear c6
     obtain ⟨bg, aH⟩ : ∃ y_ : List (S55), y_ = (aj ++ [(⟨aV, aW⟩ : S55)]) := ⟨_, rfl⟩
     replace H : (graftwoodlaw05_Few.l0 k1 l0 bg (wrap64 (ab + 1))) = some r := by first | (rw [aH]; with_reducible exact H) | (have H2_ := (Option.bind_some _ _).symm.trans H; rw [aH]; with_reducible exact H2_) | (have H2_ := (Option.bind_some _ _).symm.trans H; with_reducible exact H2_) | with_reducible exact H | (rw [aH]; exact H) | exact H
     have Ny108 := Aside0.mk aH
     clear aH
     have H' := Aside0.mk H
     clear H
     have p105 : 0 ≤ (ab : Int) := of_decide_eq_true rfA
     have q105 : ab < (l0.length : Int) := of_decide_eq_true rfA
     obtain ⟨ad105, e105, aD, aE⟩ := at_T55 HR0.out ab p105 q105
     cases e105
     replace aD := (HB.out.cell (World.block_lt_of_cell? w _ aD)).trans aD
     replace aE := (HB.out.cell (World.block_lt_of_cell? w _ aE)).trans aE
     replace p105 := eq_true p105
     replace q105 := eq_true q105
     go_wp2_with (first | ((with_reducible refine gtC 29 ?_); refine xCb 20 Tryz.func29 (graftwoodlaw05_One.calls ((rd_T55 l0 ab).f0) ((rd_T55 l0 ab).f1) aV aW _ A5.out) fun w7 hb => ?_; replace af := am (rB af.out hb); replace HB := am (sTx HB.out hb)) | ((with_reducible refine gate_builtin (b := .append) (xs := #[.tmp 15, .tmp 21]) rfl ?_); at_builtin; refine Kd.R_append k55 (w0 := w) w.heap.size rfl (.tmp 15) (.tmp 21) 22 55 (.agg #[(.string ⟨#[]⟩), (.string ⟨#[]⟩)]) 32 rfl Tryz.underlying22 info55 rfl (by decide) (by omega) u3 aj (⟨aV, aW⟩ : S55) [.string aV, .string aW] (fun _ => True) (fun _ => False) rfl rfl ?aP (fun _ hk => hk.elim) ?aF ?aO ?aB ?aS ?aL ?_; (case aP => exact k55_mkM _ _ _ (⟨aV, aW⟩ : S55)); (case aB => exact (eTx HB.out)); (case aF => exact (fun _ _ => trivial)); (case aO => exact (rT af.out)); (case aS => exact (below_size (eTx HB.out))); (case aL => have := LMc6.out; omega); intro b8 w8 ho hb hg hat; rw [← Ny108.out] at ho; replace HB := am (hb); have bh := am (ho); clear af ho hb hg hat))
     go_roundg k1
     case measure => have := HK1.out; omega
     case rel => exact ⟨(bg), (wrap64 (ab + 1)), rfG, H', ⟨by have := HK1.out; omega⟩, ⟨rT bh.out⟩, ⟨eTx HB.out⟩⟩
    ·have ay := decide_eq_false c3
     clear c3
     obtain rfl := smI H
     go_wp2
     go_ret
     exact ⟨_, rfF, by (with_reducible repeat (first | apply Kd.R_alloc | apply Kd.R_drewN | apply Kd.R_drew)); exact af.out, eTx HB.out⟩
   ·have a7 := decide_eq_false c2
    clear c2
    obtain rfl := smI H
    go_wp2
    go_ret
    exact ⟨_, rfF, by (with_reducible repeat (first | apply Kd.R_alloc | apply Kd.R_drewN | apply Kd.R_drew)); exact af.out, eTx HB.out⟩

/-! ### graftwoodlaw16_Few: function 8 -/
mutual
def graftwoodlaw16_Few.l0 : Nat → List (S63) → List (S63) → Int → Option ((List (S63)))
 | 0, _, _, _ => none
 | k + 1, x0, x3, x4 => if x4 < (x0.length : Int) then (graftwoodlaw16_Few.j1 k x0 x3 x4 (decide (x4 < 12))) else (graftwoodlaw16_Few.j1 k x0 x3 x4 false)
def graftwoodlaw16_Few.j1 : Nat → List (S63) → List (S63) → Int → Bool → Option ((List (S63)))
 | 0, _, _, _, _ => none
 | k + 1, x0, x3, x4, x14 => if x14 = true then (if 0 ≤ x4 then (if x4 < (x0.length : Int) then ((graftwoodlaw01_Few.f ((rd_T63 x0 x4).f0)).bind fun ag => (graftwoodlaw16_Few.l1 k x0 x3 x4 0 ag ([] : List ByteArray))) else (none)) else (none)) else (some x3)
def graftwoodlaw16_Few.l1 : Nat → List (S63) → List (S63) → Int → Int → ByteArray → List ByteArray → Option ((List (S63)))
 | 0, _, _, _, _, _, _ => none
 | k + 1, x0, x3, x4, x6, aG, au => if 0 ≤ x4 then (if x4 < (x0.length : Int) then (if x6 < (((rd_T63 x0 x4).f1).length : Int) then (if x6 < 12 then (if 0 ≤ x6 then ((graftwoodlaw01_Few.f (rdOf ByteArray.empty ((rd_T63 x0 x4).f1) x6)).bind fun aM => (if au.length < 8796093022208 then (graftwoodlaw16_Few.l1 k x0 x3 x4 (wrap64 (x6 + 1)) aG (au ++ [aM])) else (none))) else (none)) else (if x3.length < 3518437208883 then (graftwoodlaw16_Few.l0 k x0 (x3 ++ [(⟨aG, au⟩ : S63)]) (wrap64 (x4 + 1))) else (none))) else (if x3.length < 3518437208883 then (graftwoodlaw16_Few.l0 k x0 (x3 ++ [(⟨aG, au⟩ : S63)]) (wrap64 (x4 + 1))) else (none))) else (none)) else (none)
end
def graftwoodlaw16_Few.f (k : Nat) (l0 : List (S63)) : Option ((List (S63))) := graftwoodlaw16_Few.l0 k l0 ([] : List (S63)) 0
theorem graftwoodlaw16_Few.mono_l : ∀ k, (∀ y0 y1 y2, LeO (graftwoodlaw16_Few.l0 k y0 y1 y2) (graftwoodlaw16_Few.l0 (k + 1) y0 y1 y2)) ∧ (∀ y0 y1 y2 y3, LeO (graftwoodlaw16_Few.j1 k y0 y1 y2 y3) (graftwoodlaw16_Few.j1 (k + 1) y0 y1 y2 y3)) ∧ (∀ y0 y1 y2 y3 y4 y5, LeO (graftwoodlaw16_Few.l1 k y0 y1 y2 y3 y4 y5) (graftwoodlaw16_Few.l1 (k + 1) y0 y1 y2 y3 y4 y5))
 | 0 => ⟨fun _ _ _ r h => by simp [graftwoodlaw16_Few.l0] at h, fun _ _ _ _ r h => by simp [graftwoodlaw16_Few.j1] at h, fun _ _ _ _ _ _ r h => by simp [graftwoodlaw16_Few.l1] at h⟩
 | k + 1 => by
  obtain ⟨ih0, ih1, ih2⟩ := graftwoodlaw16_Few.mono_l k
  refine ⟨?_, ?_, ?_⟩
  ·intro y0 y1 y2
   unfold graftwoodlaw16_Few.l0
   repeat' first | (with_reducible first | apply ih0 | apply ih1 | apply ih2 | apply LeO.refl | apply LeO.none | apply LeO.ite | refine LeO.bind ?_ (fun _ => ?_)) | apply ih0 | apply ih1 | apply ih2 | exact LeO.none _ | refine LeO.ite ?_ ?_ | refine LeO.bind ?_ (fun _ => ?_)
  ·intro y0 y1 y2 y3
   unfold graftwoodlaw16_Few.j1
   repeat' first | (with_reducible first | apply ih0 | apply ih1 | apply ih2 | apply LeO.refl | apply LeO.none | apply LeO.ite | refine LeO.bind ?_ (fun _ => ?_)) | apply ih0 | apply ih1 | apply ih2 | exact LeO.none _ | refine LeO.ite ?_ ?_ | refine LeO.bind ?_ (fun _ => ?_)
  ·intro y0 y1 y2 y3 y4 y5
   unfold graftwoodlaw16_Few.l1
   repeat' first | (with_reducible first | apply ih0 | apply ih1 | apply ih2 | apply LeO.refl | apply LeO.none | apply LeO.ite | refine LeO.bind ?_ (fun _ => ?_)) | apply ih0 | apply ih1 | apply ih2 | exact LeO.none _ | refine LeO.ite ?_ ?_ | refine LeO.bind ?_ (fun _ => ?_)
theorem graftwoodlaw16_Few.mono : ∀ a0 k, LeO (graftwoodlaw16_Few.f k a0) (graftwoodlaw16_Few.f (k + 1) a0) := by
 intro a0 k
 obtain ⟨ih0, ih1, ih2⟩ := graftwoodlaw16_Few.mono_l k
 unfold graftwoodlaw16_Few.f
 repeat' first | (with_reducible first | apply ih0 | apply ih1 | apply ih2 | apply LeO.refl | apply LeO.none | apply LeO.ite | refine LeO.bind ?_ (fun _ => ?_)) | apply ih0 | apply ih1 | apply ih2 | exact LeO.none _ | refine LeO.ite ?_ ?_ | refine LeO.bind ?_ (fun _ => ?_)
def graftwoodlaw16_Few.T9 : Bool × List (List Nat × List Nat) := (true, [([], []), ([0], [0]), ([], []), ([], []), ([2, 3], [2, 3]), ([4], [4]), ([5], [5]), ([], []), ([6, 7], [6, 7]), ([8], [8]), ([9], [9]), ([10], [10]), ([1, 11, 10], [1, 11]), ([0, 1, 2, 3, 4, 5, 6, 7, 8, 9, 10, 11, 12], []), ([13, 12, 12, 0, 1, 2, 3, 4, 5, 6, 7, 8, 9, 10, 11, 12], [12, 13])])
def graftwoodlaw16_Few.B9 : List Nat := [0, 1, 0, 0, 12, 28, 60, 0, 252, 508, 1020, 2044, 4095, 8191, 16383]
theorem graftwoodlaw16_Few.tab9 : rtab .any (opsOf Tryz.f8 9) = graftwoodlaw16_Few.T9 := by kernel_rfl
theorem graftwoodlaw16_Few.bits9 : waitsOk graftwoodlaw16_Few.T9.2 graftwoodlaw16_Few.B9 = true := by kernel_rfl
theorem graftwoodlaw16_Few.calls (k : Nat) (A0 : Option Addr) (c0 : Nat) (l0 : List (S63)) (r : List (S63)) (w : World) (hr0 : Kd.C k63 w A0 l0.length l0) (hc0 : l0.length ≤ c0) (h : graftwoodlaw16_Few.f k l0 = some r) :
  Calls Tryz.prog 8 #[.slice A0 l0.length c0] w fun e w' => ∃ v0_ : Value, e = .returned (v0_) ∧ Kd.S k63 63 w' w.heap.size (fun _ => True) v0_ r ∧ Below w.heap.size w w' := by
 have hu63 := Tryz.underlying63
 have HR0 := Aside0.mk hr0
 have HC0 := Aside0.mk hc0
 clear hr0 hc0
 have HB := am (Below.refl w.heap.size w)
 unfold graftwoodlaw16_Few.f at h; have H := h; clear h
 have H' := Aside0.mk H
 clear H
 go_enter Tryz.func8, Tryz.ntmps8
 go_wp2
 go_loopg [3, 4] k (fun kq v3 v4 w' => ∃ (aj : List (S63)) (ab : Int), v4 = .int .i64 ab ∧ Aside0 (graftwoodlaw16_Few.l0 kq l0 aj ab = some r) ∧ Aside0 (kq ≤ k) ∧ Aside0 (Kd.S k63 63 w' w.heap.size (fun _ => True) v3 aj) ∧ Aside0 (Below w.heap.size w w'))
 case atStart => exact ⟨(([] : List (S63))), (0), rfG, H', ⟨Nat.le_refl _⟩, ⟨by first | exact Kd.S_nil _ _ _ _ _ | exact Kd.N_nil _ _ _ _ _ | exact Kd.V_nil _ _ _ _ _ | exact Kd.Q_nil _ _ _ _ _ | exact Kd.R_nil _ _ _ _ _⟩, ⟨eTx HB.out⟩⟩
 case round =>
  clear H'
  obtain ⟨aj, ab, rfl, HA, HK1, af, HB⟩ := hrel
  cases gk with
  | zero => exact absurd HA.out (by simp [graftwoodlaw16_Few.l0])
  | succ k1 =>
   have H := HA.out
   clear HA
   simp only [graftwoodlaw16_Few.l0] at H
   have HC2 := Aside0.mk H
   clear H
   go_upto_region 3 with (fail)
   go_cut [14] (fun v14 wc => ∃ (kq : Nat) (aN : Bool), v14 = .bool aN ∧ Aside0 (graftwoodlaw16_Few.j1 kq l0 aj ab aN = some r) ∧ Aside0 (kq ≤ k1) ∧ Aside0 (Kd.S k63 63 wc w.heap.size (fun _ => True) u3 aj) ∧ Aside0 (Below w.heap.size w wc))
   case first =>
    have H := HC2.out
    clear HC2
    replace H := ifP H; rcases H with ⟨c3, H⟩ | ⟨c3, H⟩
    ·have ay := decide_eq_true c3
     clear c3
     (first | rw [ay] | (simp only [i64_w, i32_w]; rw [ay]) | skip)
     have H' := Aside0.mk H
     clear H
     go_wp2
     go_meet
     case rel => exact ⟨_, (decide (ab < 12)), rfG, H', ⟨by have := HK1.out; first | omega | exact Nat.le_refl _⟩, ⟨by (with_reducible repeat (first | apply Kd.S_alloc | apply Kd.S_drewN | apply Kd.S_drew)); exact af.out⟩, ⟨eTx HB.out⟩⟩
    ·have ay := decide_eq_false c3
     clear c3
     (first | rw [ay] | (simp only [i64_w, i32_w]; rw [ay]) | skip)
     have H' := Aside0.mk H
     clear H
     go_wp2
     go_meet
     case rel => exact ⟨_, (false), rfG, H', ⟨by have := HK1.out; first | omega | exact Nat.le_refl _⟩, ⟨by (with_reducible repeat (first | apply Kd.S_alloc | apply Kd.S_drewN | apply Kd.S_drew)); exact af.out⟩, ⟨eTx HB.out⟩⟩
   case rest =>
    clear HC2
    obtain ⟨kq, aN, rfl, HA, HJ1, af, HB⟩ := hcut
    cases kq with
    | zero => exact absurd HA.out (by simp [graftwoodlaw16_Few.j1])
    | succ kj1 =>
     have H := HA.out
     clear HA
     simp only [graftwoodlaw16_Few.j1] at H
     replace H := ifB H; rcases H with ⟨rfl, H⟩ | ⟨rfl, H⟩
     ·replace H := ifN H; obtain ⟨c5, H⟩ := H
      have bL := decide_eq_true c5
      clear c5
      replace H := ifN H; obtain ⟨c6, H⟩ := H
      have bM := decide_eq_true c6
      clear c6
      replace H := bnd H; obtain ⟨ag, A7, H⟩ := H
      have H' := Aside0.mk H
      clear H
      have p111 : 0 ≤ (ab : Int) := of_decide_eq_true rfA
      have q111 : ab < (l0.length : Int) := of_decide_eq_true rfA
      obtain ⟨ad111, bN, bO, e111, av, aw, hl111_1, hi111_1⟩ := at_T63 HR0.out ab p111 q111
      cases e111
      replace av := (HB.out.cell (World.block_lt_of_cell? w _ av)).trans av
      replace aw := (HB.out.cell (World.block_lt_of_cell? w _ aw)).trans aw
      have br := Aside0.mk hi111_1
      have bs := Aside0.mk hl111_1
      clear hi111_1 hl111_1
      replace p111 := eq_true p111
      replace q111 := eq_true q111
      go_wp2_with (first | ((with_reducible refine gtC 9 ?_); refine xCz 22 Tryz.func9 (graftwoodlaw01_Few.calls ((rd_T63 l0 ab).f0) ag _ A7.out) fun nd => ?_; (try (rw [drewN_self wc]; generalize hq_ : World.drewN wc _ = wc; have n0_ : Aside0 (Kd.S k63 63 wc w.heap.size (fun _ => True) u3 aj) := ⟨by rw [← hq_]; exact (by (with_reducible repeat (first | apply Kd.S_alloc | apply Kd.S_drewN | apply Kd.S_drew)); exact af.out)⟩; have n1_ : Aside0 (Below w.heap.size w wc) := ⟨by rw [← hq_]; exact (eTx HB.out)⟩; clear af HB hq_; have af := n0_; have HB := n1_; clear n0_ n1_))) | ((with_reducible refine gtD 5 ?_); refine xBx 5 63 #[.string (⟨#[]⟩ : ByteArray), .slice none 0 0] ?_; intro ae hg w8 hbox hb; replace af := am (Kd.S_below (Kd.S_elderB (by (with_reducible repeat (first | apply Kd.S_alloc | apply Kd.S_drewN | apply Kd.S_drew)); exact af.out) ae (Nat.le_of_eq hg.symm)) hb); have ac := am (hbox); have bX := am ((gTx hg HB.out)); have bZ := am ((gTx hg HB.out)); replace HB := am (sTx HB.out hb); clear hb hbox hg; obtain ⟨a8, a9, a_, bb⟩ := bxB ac))
      go_loopg [6] kj1 (fun kq v6 w' => ∃ (al : Int) (aa : List ByteArray) (u114001 : Value), v6 = .int .i64 al ∧ Aside0 (graftwoodlaw16_Few.l1 kq l0 aj ab al ag aa = some r) ∧ Aside0 (kq ≤ kj1) ∧ Aside0 (Kd.S k63 63 w' w.heap.size (fun k_ => some k_ ≠ (u114001 : Value).ownBlock ∧ k_ ≠ ae) u3 aj) ∧ Aside0 (Kd.R Kd.string 9 w' w.heap.size (fun _ => True) u114001 aa) ∧ Aside0 (w'.heap[ae]? = some (.cells #[.string ag, u114001] 63 (0, 0))) ∧ Aside0 (Below w.heap.size w w'))
      case atStart => exact ⟨(0), (([] : List ByteArray)), (.slice none 0 0), rfG, H', ⟨Nat.le_refl _⟩, ⟨by (with_reducible repeat (first | apply Kd.S_alloc | apply Kd.S_drewN | apply Kd.S_drew)); exact Kd.S_mono (Kd.S_far (p := ⟨ae, 1, none⟩) (Kd.S_far (p := ⟨ae, 0, none⟩) (Kd.S_mono af.out (fun k_ hk => (⟨hk, hk.2⟩ : _ ∧ k_ ≠ ae))) (fun _ hk => hk.2) (.string ag)) (fun _ hk => hk.2) (.slice none 0 0)) (fun _ hk => ⟨(by simp [Value.ownBlock]), hk.1.2⟩)⟩, ⟨rfM⟩, ⟨kBk⟩, ⟨eTx HB.out⟩⟩
      case round =>
       clear H'
       obtain ⟨al, aa, u114001, rfl, HA, HK3, af, ad, ac, HB⟩ := hrel
       cases gk with
       | zero => exact absurd HA.out (by simp [graftwoodlaw16_Few.l1])
       | succ k3 =>
        have H := HA.out
        clear HA
        simp only [graftwoodlaw16_Few.l1] at H
        replace H := ifN H; obtain ⟨c10, H⟩ := H
        have b0 := decide_eq_true c10
        clear c10
        replace H := ifN H; obtain ⟨c11, H⟩ := H
        have b1 := decide_eq_true c11
        clear c11
        replace H := ifP H; rcases H with ⟨c12, H⟩ | ⟨c12, H⟩
        ·have bi := decide_eq_true c12
         clear c12
         replace H := ifP H; rcases H with ⟨c13, H⟩ | ⟨c13, H⟩
         ·have bj := decide_eq_true c13
          clear c13
          replace H := ifN H; obtain ⟨c14, H⟩ := H
          have b2 := decide_eq_true c14
          clear c14
          replace H := bnd H; obtain ⟨aM, A15, H⟩ := H
          replace H := ifN H; obtain ⟨c16, H⟩ := H
          have LMc16 := Aside0.mk c16
          clear c16
          obtain ⟨aX, aI⟩ : ∃ y_ : List ByteArray, y_ = (aa ++ [aM]) := ⟨_, rfl⟩
          replace H : (graftwoodlaw16_Few.l1 k3 l0 aj ab (wrap64 (al + 1)) ag aX) = some r := by first | (rw [aI]; with_reducible exact H) | (have H2_ := (Option.bind_some _ _).symm.trans H; rw [aI]; with_reducible exact H2_) | (have H2_ := (Option.bind_some _ _).symm.trans H; with_reducible exact H2_) | with_reducible exact H | (rw [aI]; exact H) | exact H
          have Ny118 := Aside0.mk aI
          clear aI
          have H' := Aside0.mk H
          clear H
          have p114 : 0 ≤ (ab : Int) := of_decide_eq_true rfA
          have q114 : ab < (l0.length : Int) := of_decide_eq_true rfA
          obtain ⟨ad114, aY, aZ, e114, ah, ai, hl114_1, hi114_1⟩ := at_T63 HR0.out ab p114 q114
          obtain rfl : ad111 = ad114 := (by injection e114)
          replace ah := (HB.out.cell (World.block_lt_of_cell? w _ ah)).trans ah
          replace ai := (HB.out.cell (World.block_lt_of_cell? w _ ai)).trans ai
          have aQ := Aside0.mk hi114_1
          have aR := Aside0.mk hl114_1
          clear hi114_1 hl114_1
          replace p114 := eq_true p114
          replace q114 := eq_true q114
          try go_wp2
          replace af := am (Kd.S_drew af.out)
          replace ad := am (Kd.R_drew ad.out)
          replace ac := am (blk_drew ac.out)
          replace HB := am (below_drew1 HB.out)
          have p115 : 0 ≤ (ab : Int) := of_decide_eq_true rfA
          have q115 : ab < (l0.length : Int) := of_decide_eq_true rfA
          obtain ⟨ad115, bP, bc, e115, ao, ap, hl115_1, hi115_1⟩ := at_T63 HR0.out ab p115 q115
          have hw115_1 := ap
          have hw115_0 := ao
          obtain rfl : ad111 = ad115 := (by injection e115)
          replace ao := (HB.out.cell (World.block_lt_of_cell? w _ ao)).trans ao
          replace ap := (HB.out.cell (World.block_lt_of_cell? w _ ap)).trans ap
          have aU := Aside0.mk hi115_1
          have bt := Aside0.mk hl115_1
          clear hi115_1 hl115_1
          replace p115 := eq_true p115
          replace q115 := eq_true q115
          have p116 : 0 ≤ (al : Int) := of_decide_eq_true rfA
          have q116 : al < (((rd_T63 l0 ab).f1).length : Int) := of_decide_eq_true rfA
          obtain ⟨ad116, e116, aq⟩ := Kd.at_string aU.out al p116 q116
          have hw116_0 := aq
          cases e116
          replace aq := (HB.out.cell (World.block_lt_of_cell? w _ aq)).trans aq
          replace p116 := eq_true p116
          replace q116 := eq_true q116
          refine start_ (n := 15) (S := fun w' => w'.cell? ⟨ae, 0, none⟩ = some (.string ag) ∧ w'.cell? ⟨ae, 1, none⟩ = some (u114001) ∧ w'.cell? (ad111.add ((ab).toNat * 2)) = some (.string ((rd_T63 l0 ab).f0)) ∧ w'.cell? ⟨(ad111.add ((ab).toNat * 2)).block, (ad111.add ((ab).toNat * 2)).off + 1, none⟩ = some (.slice (some ad116) ((rd_T63 l0 ab).f1).length bc) ∧ w'.cell? (ad116.add (al).toNat) = some (.string (rdOf ByteArray.empty ((rd_T63 l0 ab).f1) al))) (ds := [14]) (bA 15 0) rfK rfl rfK ⟨cT ac 0, cT ac 1, ((HB.out.cell (World.block_lt_of_cell? w _ hw115_0)).trans hw115_0), ((HB.out.cell (World.block_lt_of_cell? w _ hw115_1)).trans hw115_1), ((HB.out.cell (World.block_lt_of_cell? w _ hw116_0)).trans hw116_0)⟩ (fun hHeld => ?_); refine with_tabW graftwoodlaw16_Few.tab9 graftwoodlaw16_Few.bits9 (fun HT_ HW_ => ?_)
          generalize wr.drew = w17 at af ad ac HB aU ao ap aq hHeld ⊢
          refine pT 0 38 (bA 15 1) HT_.out ?_
          refine pT 2 40 (bA 15 5) HT_.out ?_
          refine pT 3 41 (bA 15 13) HT_.out ?_
          refine pT 4 42 (bA 15 29) HT_.out ?_
          refine pT 5 43 (bA 15 61) HT_.out ?_
          refine pT 7 45 (bA 15 189) HT_.out ?_
          refine tT 1 39 (bA 15 191) HT_.out HW_.out hHeld ?_ (hy := by rintro w' ⟨s0, s1, s2, s3, s4⟩; go_simp; with_reducible rfl)
          refine tT 6 44 (bA 15 255) HT_.out HW_.out hHeld ?_ (hy := by rintro w' ⟨s0, s1, s2, s3, s4⟩; go_simp; with_reducible rfl)
          refine pT 8 46 (bA 15 511) HT_.out ?_
          refine tT 9 47 (bA 15 1023) HT_.out HW_.out hHeld ?_ (hy := by rintro w' ⟨s0, s1, s2, s3, s4⟩; go_simp; with_reducible rfl)
          refine oT 10 (bA 15 2047) HT_.out fun K hK => ?_
          refine gS Tryz.func9 #[.string (rdOf ByteArray.empty ((rd_T63 l0 ab).f1) al)] ?_
          with_reducible refine (graftwoodlaw01_Few.calls (rdOf ByteArray.empty ((rd_T63 l0 ab).f1) al) aM _ A15.out).mono ?_
          rintro e w' ⟨rfl, ⟨nd, rfl⟩⟩
          refine ⟨_, rfl, ?_⟩
          refine hK.out _ _ ⟨cT ac 0, cT ac 1, ((HB.out.cell (World.block_lt_of_cell? w _ hw115_0)).trans hw115_0), ((HB.out.cell (World.block_lt_of_cell? w _ hw115_1)).trans hw115_1), ((HB.out.cell (World.block_lt_of_cell? w _ hw116_0)).trans hw116_0)⟩ (fun hHeld => ?_)
          clear hK K
          refine mN 48 ?_
          refine oT 11 (bA 15 4095) HT_.out fun K hK => ?_
          refine value_ (w1 := ?_) (v := ?_) (by rfl) rfl ?_ ?_
          rotate_left 2
          ·go_simp
           constructor
           ·rfl
           ·rfl
          refine hK.out _ _ ⟨(blk_cell (blk_alloc ac.out _) 0).trans rfl, (blk_cell (blk_alloc ac.out _) 1).trans rfl, (World.cell?_alloc_lt _ _ _ (World.block_lt_of_cell? _ _ (((HB.out.cell (World.block_lt_of_cell? w _ hw115_0)).trans hw115_0)))).trans (((HB.out.cell (World.block_lt_of_cell? w _ hw115_0)).trans hw115_0)), (World.cell?_alloc_lt _ _ _ (World.block_lt_of_cell? _ _ (((HB.out.cell (World.block_lt_of_cell? w _ hw115_1)).trans hw115_1)))).trans (((HB.out.cell (World.block_lt_of_cell? w _ hw115_1)).trans hw115_1)), (World.cell?_alloc_lt _ _ _ (World.block_lt_of_cell? _ _ (((HB.out.cell (World.block_lt_of_cell? w _ hw116_0)).trans hw116_0)))).trans (((HB.out.cell (World.block_lt_of_cell? w _ hw116_0)).trans hw116_0))⟩ (fun hHeld => ?_)
          clear hK K
          refine mN 49 ?_
          refine oT 12 (bA 15 8191) HT_.out fun K hK => ?_
          refine Kd.R_append_step Kd.string (w0 := w) w.heap.size (by rfl) (.tmp 39) (.tmp 49) 61 9 (.string ⟨#[]⟩) 16 rfl Tryz.underlying61 info9 rfl (by decide) (by omega) u114001 aa aM [.string aM] (fun _ => True) (fun _ => False) rfl rfl ?aP (fun _ hk => hk.elim) ?aF ?aO ?aB ?aS ?aL ?_
          (case aP => exact rfl)
          (case aB => exact (eTx HB.out))
          (case aF => exact (fun _ _ => trivial))
          (case aO => exact (rT ad.out))
          (case aS => exact (below_size (eTx HB.out)))
          (case aL => have := LMc16.out; omega)
          intro b9 w18 ho hb hg hat
          rw [← Ny118.out] at ho
          replace af := am (Kd.S_after (ok := (fun k_ => k_ ≠ ae)) (by (with_reducible repeat (first | apply Kd.S_alloc | apply Kd.S_drewN | apply Kd.S_drew)); exact Kd.S_mono af.out (fun _ hk => ⟨hk.2, hk.1⟩)) hg hat)
          replace ac := am (blk_grown (g := ae) (o := .cells #[.string ag, u114001] 63 (0, 0)) (bT ac.out) hg (Kd.R_ne ad.out ac.out (by decide)))
          replace HB := am (hb)
          have a6 := am (ho)
          clear ad ho hb hg hat
          obtain ⟨be, bf, bl⟩ := Kd.R_slice a6.out
          (first | subst bl | (injection bl with f1_ f2_ f3_; have f4_ := f1_.symm; have f5_ := f3_.symm; clear f1_ f2_ f3_; subst f4_; subst f5_))
          refine hK.out _ _ ⟨cT ac 0, cT ac 1, ((HB.out.cell (World.block_lt_of_cell? w _ hw115_0)).trans hw115_0), ((HB.out.cell (World.block_lt_of_cell? w _ hw115_1)).trans hw115_1), ((HB.out.cell (World.block_lt_of_cell? w _ hw116_0)).trans hw116_0)⟩ (fun hHeld => ?_)
          clear hK K
          refine mN 50 ?_
          refine pT 13 51 (bA 15 16383) HT_.out ?_
          refine last_ (i := 14) (N := none) (bA 15 32767) rfl rfl (one_of HT_.out rfK) (by decide) (fun K hK => ?_)
          have b_ : w18.cell? ⟨ae, 1, none⟩ = some (u114001) := cT ac 1
          have b3 := blk_frozen ac.out 1
          refine skip_ (w1 := ?_) (by rfl) rfl ?_ ?_
          rotate_left
          ·go_simp
           rfl
          refine hK.out _ _ ?_
          clear hK K
          refine done_ (done_of HT_.out rfK) ?_
          try go_wp2
          go_roundg k3
          case measure => have := HK1.out; have := HJ1.out; have := HK3.out; omega
          case rel => exact ⟨(wrap64 (al + 1)), (aX), (.slice be aX.length bf), rfG, H', ⟨by have := HK1.out; have := HJ1.out; have := HK3.out; omega⟩, ⟨by (with_reducible repeat (first | apply Kd.S_alloc | apply Kd.S_drewN | apply Kd.S_drew)); exact Kd.S_mono (Kd.S_far (p := ⟨ae, 1, none⟩) (Kd.S_mono af.out (fun k_ hk => (⟨hk, hk.1⟩ : _ ∧ k_ ≠ ae))) (fun _ hk => hk.2) (.slice be aX.length bf)) (fun _ hk => ⟨hk.1.2, hk.1.1⟩)⟩, ⟨by (with_reducible repeat (first | apply Kd.R_alloc | apply Kd.R_drewN | apply Kd.R_drew)); exact Kd.R_mono (Kd.R_far (p := ⟨ae, 1, none⟩) (Kd.R_types a6.out ac.out (by decide)) (fun _ hk => hk.2) (.slice be aX.length bf)) (fun _ hk => trivial)⟩, ⟨kBk⟩, ⟨eTx HB.out⟩⟩
         ·have bj := decide_eq_false c13
          clear c13
          replace H := ifN H; obtain ⟨c21, H⟩ := H
          have LMc21 := Aside0.mk c21
          clear c21
          obtain ⟨bm, aJ⟩ : ∃ y_ : List (S63), y_ = (aj ++ [(⟨ag, aa⟩ : S63)]) := ⟨_, rfl⟩
          replace H : (graftwoodlaw16_Few.l0 k3 l0 bm (wrap64 (ab + 1))) = some r := by first | (rw [aJ]; with_reducible exact H) | (have H2_ := (Option.bind_some _ _).symm.trans H; rw [aJ]; with_reducible exact H2_) | (have H2_ := (Option.bind_some _ _).symm.trans H; with_reducible exact H2_) | with_reducible exact H | (rw [aJ]; exact H) | exact H
          have Ny121 := Aside0.mk aJ
          clear aJ
          have H' := Aside0.mk H
          clear H
          have p114 : 0 ≤ (ab : Int) := of_decide_eq_true rfA
          have q114 : ab < (l0.length : Int) := of_decide_eq_true rfA
          obtain ⟨ad114, aY, aZ, e114, ah, ai, hl114_1, hi114_1⟩ := at_T63 HR0.out ab p114 q114
          obtain rfl : ad111 = ad114 := (by injection e114)
          replace ah := (HB.out.cell (World.block_lt_of_cell? w _ ah)).trans ah
          replace ai := (HB.out.cell (World.block_lt_of_cell? w _ ai)).trans ai
          have aQ := Aside0.mk hi114_1
          have aR := Aside0.mk hl114_1
          clear hi114_1 hl114_1
          replace p114 := eq_true p114
          replace q114 := eq_true q114
          obtain ⟨bu, bv, bw, bx⟩ := bxB ac
          obtain ⟨a1, a2, bQ⟩ := Kd.R_slice ad.out
          subst bQ
          go_wp2_with (first | ((with_reducible refine gate_builtin (b := .append) (xs := #[.tmp 52, .tmp 54]) rfl ?_); at_builtin; refine Kd.S_append k63 (w0 := w) w.heap.size rfl (.tmp 52) (.tmp 54) 23 63 (.agg #[(.string ⟨#[]⟩), (.slice none 0 0)]) 40 rfl Tryz.underlying23 info63 rfl (by decide) (by omega) u3 aj (⟨ag, aa⟩ : S63) [.string ag, .slice a1 aa.length a2] (fun k_ => k_ ≠ ae) (fun k_ => some k_ = (.slice a1 aa.length a2 : Value).ownBlock) rfl rfl ?aP (fun k_ hk_ => ((Kd.R_mono (ok' := fun k_ => ((fun k_ => k_ ≠ ae)) k_ ∧ some k_ ≠ (u3 : Value).ownBlock) (Kd.R_types (Kd.R_apart' (ad.out) (Kd.S_typed af.out) (by decide)) ac.out (by decide)) (fun k_ hk => ⟨hk.2, hk.1.2⟩))).1 k_ hk_.symm) ?aF ?aO ?aB ?aS ?aL ?_; (case aP => exact k63_mkM _ _ _ (⟨ag, aa⟩ : S63) (Kd.R_mono (Kd.R_tight rfl (Kd.R_mono (ok' := fun k_ => ((fun k_ => k_ ≠ ae)) k_ ∧ some k_ ≠ (u3 : Value).ownBlock) (Kd.R_types (Kd.R_apart' (ad.out) (Kd.S_typed af.out) (by decide)) ac.out (by decide)) (fun k_ hk => ⟨hk.2, hk.1.2⟩))) (fun _ h_ => h_))); (case aB => exact (eTx HB.out)); (case aF => exact (fun k_ hk => Kd.freshB (g := ae) (o := .cells #[.string ag, .slice a1 aa.length a2] 63 (0, 0)) (bT ac.out) k_ hk)); (case aO => exact (by (with_reducible repeat (first | apply Kd.S_alloc | apply Kd.S_drewN | apply Kd.S_drew)); exact Kd.S_mono af.out (fun k_ hk => ⟨hk.2, fun e_ => hk.1 e_⟩))); (case aS => exact (below_size (eTx HB.out))); (case aL => have := LMc21.out; omega); intro ca w23 ho hb hg hat; rw [← Ny121.out] at ho; replace ac := am (blk_grown (g := ae) (o := .cells #[.string ag, .slice a1 aa.length a2] 63 (0, 0)) (bT ac.out) hg (Kd.S_away af.out (fun _ hk => hk.2))); replace HB := am (hb); have bo := am (ho); clear af ad ho hb hg hat))
          go_roundg k3
          case measure => have := HK1.out; have := HJ1.out; have := HK3.out; omega
          case rel => exact ⟨(bm), (wrap64 (ab + 1)), rfG, H', ⟨by have := HK1.out; have := HJ1.out; have := HK3.out; omega⟩, ⟨by (with_reducible repeat (first | apply Kd.S_alloc | apply Kd.S_drewN | apply Kd.S_drew)); exact Kd.S_mono bo.out (fun _ hk => trivial)⟩, ⟨eTx HB.out⟩⟩
        ·have bi := decide_eq_false c12
         clear c12
         replace H := ifN H; obtain ⟨c25, H⟩ := H
         have LMc25 := Aside0.mk c25
         clear c25
         obtain ⟨bp, aK⟩ : ∃ y_ : List (S63), y_ = (aj ++ [(⟨ag, aa⟩ : S63)]) := ⟨_, rfl⟩
         replace H : (graftwoodlaw16_Few.l0 k3 l0 bp (wrap64 (ab + 1))) = some r := by first | (rw [aK]; with_reducible exact H) | (have H2_ := (Option.bind_some _ _).symm.trans H; rw [aK]; with_reducible exact H2_) | (have H2_ := (Option.bind_some _ _).symm.trans H; with_reducible exact H2_) | with_reducible exact H | (rw [aK]; exact H) | exact H
         have Ny124 := Aside0.mk aK
         clear aK
         have H' := Aside0.mk H
         clear H
         have p114 : 0 ≤ (ab : Int) := of_decide_eq_true rfA
         have q114 : ab < (l0.length : Int) := of_decide_eq_true rfA
         obtain ⟨ad114, aY, aZ, e114, ah, ai, hl114_1, hi114_1⟩ := at_T63 HR0.out ab p114 q114
         obtain rfl : ad111 = ad114 := (by injection e114)
         replace ah := (HB.out.cell (World.block_lt_of_cell? w _ ah)).trans ah
         replace ai := (HB.out.cell (World.block_lt_of_cell? w _ ai)).trans ai
         have aQ := Aside0.mk hi114_1
         have aR := Aside0.mk hl114_1
         clear hi114_1 hl114_1
         replace p114 := eq_true p114
         replace q114 := eq_true q114
         obtain ⟨bz, bC, bD, bE⟩ := bxB ac
         obtain ⟨a3, a4, bR⟩ := Kd.R_slice ad.out
         subst bR
         go_wp2_with (first | ((with_reducible refine gate_builtin (b := .append) (xs := #[.tmp 52, .tmp 54]) rfl ?_); at_builtin; refine Kd.S_append k63 (w0 := w) w.heap.size rfl (.tmp 52) (.tmp 54) 23 63 (.agg #[(.string ⟨#[]⟩), (.slice none 0 0)]) 40 rfl Tryz.underlying23 info63 rfl (by decide) (by omega) u3 aj (⟨ag, aa⟩ : S63) [.string ag, .slice a3 aa.length a4] (fun k_ => k_ ≠ ae) (fun k_ => some k_ = (.slice a3 aa.length a4 : Value).ownBlock) rfl rfl ?aP (fun k_ hk_ => ((Kd.R_mono (ok' := fun k_ => ((fun k_ => k_ ≠ ae)) k_ ∧ some k_ ≠ (u3 : Value).ownBlock) (Kd.R_types (Kd.R_apart' (ad.out) (Kd.S_typed af.out) (by decide)) ac.out (by decide)) (fun k_ hk => ⟨hk.2, hk.1.2⟩))).1 k_ hk_.symm) ?aF ?aO ?aB ?aS ?aL ?_; (case aP => exact k63_mkM _ _ _ (⟨ag, aa⟩ : S63) (Kd.R_mono (Kd.R_tight rfl (Kd.R_mono (ok' := fun k_ => ((fun k_ => k_ ≠ ae)) k_ ∧ some k_ ≠ (u3 : Value).ownBlock) (Kd.R_types (Kd.R_apart' (ad.out) (Kd.S_typed af.out) (by decide)) ac.out (by decide)) (fun k_ hk => ⟨hk.2, hk.1.2⟩))) (fun _ h_ => h_))); (case aB => exact (eTx HB.out)); (case aF => exact (fun k_ hk => Kd.freshB (g := ae) (o := .cells #[.string ag, .slice a3 aa.length a4] 63 (0, 0)) (bT ac.out) k_ hk)); (case aO => exact (by (with_reducible repeat (first | apply Kd.S_alloc | apply Kd.S_drewN | apply Kd.S_drew)); exact Kd.S_mono af.out (fun k_ hk => ⟨hk.2, fun e_ => hk.1 e_⟩))); (case aS => exact (below_size (eTx HB.out))); (case aL => have := LMc25.out; omega); intro cb w27 ho hb hg hat; rw [← Ny124.out] at ho; replace ac := am (blk_grown (g := ae) (o := .cells #[.string ag, .slice a3 aa.length a4] 63 (0, 0)) (bT ac.out) hg (Kd.S_away af.out (fun _ hk => hk.2))); replace HB := am (hb); have bq := am (ho); clear af ad ho hb hg hat))
         go_roundg k3
         case measure => have := HK1.out; have := HJ1.out; have := HK3.out; omega
         case rel => exact ⟨(bp), (wrap64 (ab + 1)), rfG, H', ⟨by have := HK1.out; have := HJ1.out; have := HK3.out; omega⟩, ⟨by (with_reducible repeat (first | apply Kd.S_alloc | apply Kd.S_drewN | apply Kd.S_drew)); exact Kd.S_mono bq.out (fun _ hk => trivial)⟩, ⟨eTx HB.out⟩⟩
     ·obtain rfl := smI H
      go_wp2
      go_ret
      exact ⟨_, rfF, by (with_reducible repeat (first | apply Kd.S_alloc | apply Kd.S_drewN | apply Kd.S_drew)); exact af.out, eTx HB.out⟩

end Go.Proofs.YtknmfmedklfepaaGreatDoor.P
