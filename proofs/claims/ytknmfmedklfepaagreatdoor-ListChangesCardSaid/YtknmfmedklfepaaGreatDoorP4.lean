-- half the indentation
import Derived.Test.YtknmfmedklfepaaGreatDoorSqz
import Derived.Test.YtknmfmedklfepaaGreatDoorP0
namespace Go.Proofs.YtknmfmedklfepaaGreatDoor.P
open Go.RowKit Go.Proofs.YtknmfmedklfepaaGreatDoorW.PrintWords Go.Proofs.YtknmfmedklfepaaGreatDoorW.PrintLast Go.Proofs.YtknmfmedklfepaaGreatDoorW.PrintMore
attribute [local go_sem] max2_int min2_int max_two min_two max_three min_three max_four min_four
set_option linter.unusedVariables false
set_option linter.unusedSimpArgs false
set_option maxHeartbeats 8000000
set_option maxRecDepth 100000

/-! ### graftwoodlaw01_Few: function 9 -/
def graftwoodlaw01_Few.f (a0 : ByteArray) : Option (ByteArray) := if (a0.size : Int) > 400 then (if 0 ≤ 400 then (if 400 ≤ (a0.size : Int) then (some (a0.extract 0 400)) else (none)) else (none)) else (some a0)
theorem graftwoodlaw01_Few.calls (a0 : ByteArray) (r : ByteArray) (w : World) (h : graftwoodlaw01_Few.f a0 = some r) :
  Calls Tryz.prog 9 #[.string a0] w fun e w' => e = .returned (.string r) ∧ Drawn0 w w' := by
 unfold graftwoodlaw01_Few.f at h; have H := h; clear h
 replace H := ifP H; rcases H with ⟨c2, H⟩ | ⟨c2, H⟩
 ·have ar : decide (400 < (a0.size : Int)) = true := decide_eq_true c2
  have ax : decide (400 < a0.size) = true := decide_eq_true (by omega)
  clear c2
  replace H := ifN H; obtain ⟨c3, H⟩ := H
  have au := eq_true c3
  have aJ := decide_eq_true c3
  clear c3
  replace H := ifN H; obtain ⟨c4, H⟩ := H
  have ay := eq_true c4
  have aK := decide_eq_true c4
  clear c4
  obtain rfl := smI H
  go_enter Tryz.func9, Tryz.ntmps9
  go_wp2
  go_ret
  exact ⟨rfG, rfD⟩
 ·have ar : decide (400 < (a0.size : Int)) = false := decide_eq_false c2
  have ax : decide (400 < a0.size) = false := decide_eq_false (by omega)
  clear c2
  obtain rfl := smI H
  go_enter Tryz.func9, Tryz.ntmps9
  go_wp2
  go_ret
  exact ⟨rfG, rfD⟩

/-! ### graftwoodlaw05_One: function 29 -/
def graftwoodlaw05_One.f (a0_0 : ByteArray) (a0_1 : ByteArray) : Option (ByteArray × ByteArray) := (graftwoodlaw01_Few.f a0_0).bind fun ag => ((graftwoodlaw01_Few.f a0_1).bind fun ah => (some (ag, ah)))
def graftwoodlaw05_One.T1 : Bool × List (List Nat × List Nat) := (true, [([], []), ([0], [0]), ([1], [1]), ([], []), ([3], [3]), ([4, 2], [4]), ([2, 5], [2, 5]), ([6, 5, 0, 1, 2, 3, 4, 5, 6], [6])])
def graftwoodlaw05_One.B1 : List Nat := [0, 1, 3, 0, 8, 31, 63, 127]
theorem graftwoodlaw05_One.tab1 : rtab .any (opsOf Tryz.f29 1) = graftwoodlaw05_One.T1 := by kernel_rfl
theorem graftwoodlaw05_One.bits1 : waitsOk graftwoodlaw05_One.T1.2 graftwoodlaw05_One.B1 = true := by kernel_rfl
theorem graftwoodlaw05_One.calls (a0_0 : ByteArray) (a0_1 : ByteArray) (r1 : ByteArray) (r2 : ByteArray) (w : World) (h : graftwoodlaw05_One.f a0_0 a0_1 = some (r1, r2)) :
  Calls Tryz.prog 29 #[.agg #[.string a0_0, .string a0_1]] w fun e w' => e = .returned (.agg #[.string r1, .string r2]) ∧ Below w.heap.size w w' := by
 have hu55 := Tryz.underlying55
 have HB := am (Below.refl w.heap.size w)
 unfold graftwoodlaw05_One.f at h; have H := h; clear h
 replace H := bnd H; obtain ⟨ag, A2, H⟩ := H
 replace H := bnd H; obtain ⟨ah, A3, H⟩ := H
 replace H := prB H; obtain ⟨rfl, rfl⟩ := H
 go_enter Tryz.func29, Tryz.ntmps29
 try go_wp2_with (first | ((with_reducible refine gtD 1 ?_); refine xBx 1 55 #[.string a0_0, .string a0_1] ?_; intro aq hg w4 hbox hb; have ac := am (hbox); have aE := am ((gTx hg HB.out)); have aG := am ((gTx hg HB.out)); replace HB := am (sTx HB.out hb); clear hb hbox hg) | ((with_reducible refine gtD 2 ?_); refine xBx 2 55 #[.string (⟨#[]⟩ : ByteArray), .string (⟨#[]⟩ : ByteArray)] ?_; intro ae hg w5 hbox hb; have ad := am (hbox); have aH := am ((gTx hg HB.out)); have aI := am ((gTx hg HB.out)); have aa := am ((nT ac.out hg)); have af := am ((mT ac.out hg)); replace ac := am (bB ac.out hb); replace HB := am (sTx HB.out hb); clear hb hbox hg))
 replace ac := am (blk_drew ac.out)
 replace ad := am (blk_drew ad.out)
 replace HB := am (below_drew1 HB.out)
 refine start_ (n := 8) (S := fun w' => w'.cell? ⟨aq, 0, none⟩ = some (.string a0_0) ∧ w'.cell? ⟨aq, 1, none⟩ = some (.string a0_1)) (ds := []) (bA 8 0) rfK rfl rfK ⟨cT ac 0, cT ac 1⟩ (fun hHeld => ?_); refine with_tabW graftwoodlaw05_One.tab1 graftwoodlaw05_One.bits1 (fun HT_ HW_ => ?_)
 generalize w5.drew = w6 at ac ad HB hHeld ⊢
 refine pT 0 3 (bA 8 1) HT_.out ?_
 refine pT 3 6 (bA 8 9) HT_.out ?_
 refine tT 1 4 (bA 8 11) HT_.out HW_.out hHeld ?_ (hy := by rintro w' ⟨s0, s1⟩; go_simp; with_reducible rfl)
 refine tT 4 7 (bA 8 27) HT_.out HW_.out hHeld ?_ (hy := by rintro w' ⟨s0, s1⟩; go_simp; with_reducible rfl)
 refine oT 2 (bA 8 31) HT_.out fun K hK => ?_
 refine gS Tryz.func9 #[.string a0_0] ?_
 with_reducible refine (graftwoodlaw01_Few.calls a0_0 ag _ A2.out).mono ?_
 rintro e w' ⟨rfl, ⟨nd, rfl⟩⟩
 refine ⟨_, rfl, ?_⟩
 refine hK.out _ _ ⟨cT ac 0, cT ac 1⟩ (fun hHeld => ?_)
 clear hK K
 refine mN 5 ?_
 refine oT 5 (bA 8 63) HT_.out fun K hK => ?_
 refine gS Tryz.func9 #[.string a0_1] ?_
 with_reducible refine (graftwoodlaw01_Few.calls a0_1 ah _ A3.out).mono ?_
 rintro e w' ⟨rfl, ⟨nd, rfl⟩⟩
 refine ⟨_, rfl, ?_⟩
 refine hK.out _ _ ⟨cT ac 0, cT ac 1⟩ (fun hHeld => ?_)
 clear hK K
 refine mN 8 ?_
 refine pT 6 9 (bA 8 127) HT_.out ?_
 refine oT 7 (bA 8 255) HT_.out fun K hK => ?_
 obtain ⟨hs7, aM⟩ := bxA ad
 have az := aa.out
 have aA := af.out
 have hs8 : w6.cell? ⟨ae, 1, none⟩ = some (.string (⟨#[]⟩ : ByteArray)) := cT ad 1
 have aN := blk_frozen ad.out 1
 have aC := aa.out
 have aD := af.out
 refine skip_ (w1 := ?_) (by rfl) rfl ?_ ?_
 rotate_left
 ·go_simp
  rfl
 refine hK.out _ _ kCl (fun hHeld => ?_)
 clear hK K
 refine done_ (done_of HT_.out rfK) ?_
 try go_wp2
 refine bodyPost_ret (results_cell_row rfl _ _ ae 55 #[.string ag, .string ah] (0, 0) _ rfl kBk Tryz.underlying55 rfl rfK) rfl ?_
 exact ⟨rfF, eTx HB.out⟩

/-! ### graftwoodlaw05_Few: function 7 -/
def graftwoodlaw05_Few.l0 : Nat → List (S55) → List (S55) → Int → Option ((List (S55)))
 | 0, _, _, _ => none
 | k + 1, x0, x3, x4 => if x4 < (x0.length : Int) then (if x4 < 24 then (if 0 ≤ x4 then ((graftwoodlaw05_One.f ((rd_T55 x0 x4).f0) ((rd_T55 x0 x4).f1)).bind fun bt106 => (if x3.length < 4398046511104 then (graftwoodlaw05_Few.l0 k x0 (x3 ++ [(⟨bt106.1, bt106.2⟩ : S55)]) (wrap64 (x4 + 1))) else (none))) else (none)) else (some x3)) else (some x3)
def graftwoodlaw05_Few.f (k : Nat) (l0 : List (S55)) : Option ((List (S55))) := graftwoodlaw05_Few.l0 k l0 ([] : List (S55)) 0
theorem graftwoodlaw05_Few.mono_l : ∀ k, (∀ y0 y1 y2, LeO (graftwoodlaw05_Few.l0 k y0 y1 y2) (graftwoodlaw05_Few.l0 (k + 1) y0 y1 y2))
 | 0 => fun _ _ _ r h => by simp [graftwoodlaw05_Few.l0] at h
 | k + 1 => by
  have ih0 := graftwoodlaw05_Few.mono_l k
  ·intro y0 y1 y2
   unfold graftwoodlaw05_Few.l0
   repeat' first | (with_reducible first | apply ih0 | apply LeO.refl | apply LeO.none | apply LeO.ite | refine LeO.bind ?_ (fun _ => ?_)) | apply ih0 | exact LeO.none _ | refine LeO.ite ?_ ?_ | refine LeO.bind ?_ (fun _ => ?_)
theorem graftwoodlaw05_Few.mono : ∀ a0 k, LeO (graftwoodlaw05_Few.f k a0) (graftwoodlaw05_Few.f (k + 1) a0) := by
 intro a0 k
 have ih0 := graftwoodlaw05_Few.mono_l k
 unfold graftwoodlaw05_Few.f
 repeat' first | (with_reducible first | apply ih0 | apply LeO.refl | apply LeO.none | apply LeO.ite | refine LeO.bind ?_ (fun _ => ?_)) | apply ih0 | exact LeO.none _ | refine LeO.ite ?_ ?_ | refine LeO.bind ?_ (fun _ => ?_)
theorem graftwoodlaw05_Few.calls (k : Nat) (A0 : Option Addr) (c0 : Nat) (l0 : List (S55)) (r : List (S55)) (w : World) (hr0 : Kd.C k55 w A0 l0.length l0) (hc0 : l0.length ≤ c0) (h : graftwoodlaw05_Few.f k l0 = some r) :
  Calls Tryz.prog 7 #[.slice A0 l0.length c0] w fun e w' => ∃ v0_ : Value, e = .returned (v0_) ∧ Kd.R k55 55 w' w.heap.size (fun _ => True) v0_ r ∧ Below w.heap.size w w' := by
 have hu55 := Tryz.underlying55
 have HR0 := Aside0.mk hr0
 have HC0 := Aside0.mk hc0
 clear hr0 hc0
 have HB := am (Below.refl w.heap.size w)
 unfold graftwoodlaw05_Few.f at h; have H := h; clear h
 have H' := Aside0.mk H
 clear H
 go_enter Tryz.func7, Tryz.ntmps7
 go_wp2
 go_loopg [3, 4] k (fun kq v3 v4 w' => ∃ (ak : List (S55)) (ab : Int), v4 = .int .i64 ab ∧ Aside0 (graftwoodlaw05_Few.l0 kq l0 ak ab = some r) ∧ Aside0 (kq ≤ k) ∧ Aside0 (Kd.R k55 55 w' w.heap.size (fun _ => True) v3 ak) ∧ Aside0 (Below w.heap.size w w'))
 case atStart => exact ⟨(([] : List (S55))), (0), rfG, H', ⟨Nat.le_refl _⟩, ⟨rfM⟩, ⟨eTx HB.out⟩⟩
 case round =>
  clear H'
  obtain ⟨ak, ab, rfl, HA, HK1, an, HB⟩ := hrel
  cases gk with
  | zero => exact absurd HA.out (by simp [graftwoodlaw05_Few.l0])
  | succ k1 =>
   have H := HA.out
   clear HA
   simp only [graftwoodlaw05_Few.l0] at H
   replace H := ifP H; rcases H with ⟨c2, H⟩ | ⟨c2, H⟩
   ·have ar := decide_eq_true c2
    clear c2
    replace H := ifP H; rcases H with ⟨c3, H⟩ | ⟨c3, H⟩
    ·have au := decide_eq_true c3
     clear c3
     replace H := ifN H; obtain ⟨c4, H⟩ := H
     have ay := decide_eq_true c4
     clear c4
     replace H := bnd H; obtain ⟨⟨ao, ap⟩, A5, H⟩ := H
     (try dsimp only at H)
     replace H := ifN H; obtain ⟨c6, H⟩ := H
     have LMc6 := Aside0.mk c6
     clear c6
     obtain ⟨av, al⟩ : ∃ y_ : List (S55), y_ = (ak ++ [(⟨ao, ap⟩ : S55)]) := ⟨_, rfl⟩
     replace H : (graftwoodlaw05_Few.l0 k1 l0 av (wrap64 (ab + 1))) = some r := by first | (rw [al]; with_reducible exact H) | (have H2_ := (Option.bind_some _ _).symm.trans H; rw [al]; with_reducible exact H2_) | (have H2_ := (Option.bind_some _ _).symm.trans H; with_reducible exact H2_) | with_reducible exact H | (rw [al]; exact H) | exact H
     have Ny108 := Aside0.mk al
     clear al
     have H' := Aside0.mk H
     clear H
     have p105 : 0 ≤ (ab : Int) := of_decide_eq_true rfA
     have q105 : ab < (l0.length : Int) := of_decide_eq_true rfA
     obtain ⟨ad105, e105, ai, aj⟩ := at_T55 HR0.out ab p105 q105
     cases e105
     replace ai := (HB.out.cell (World.block_lt_of_cell? w _ ai)).trans ai
     replace aj := (HB.out.cell (World.block_lt_of_cell? w _ aj)).trans aj
     replace p105 := eq_true p105
     replace q105 := eq_true q105
     go_wp2_with (first | ((with_reducible refine gtC 29 ?_); refine xCb 20 Tryz.func29 (graftwoodlaw05_One.calls ((rd_T55 l0 ab).f0) ((rd_T55 l0 ab).f1) ao ap _ A5.out) fun w7 hb => ?_; replace an := am (rB an.out hb); replace HB := am (sTx HB.out hb)) | ((with_reducible refine gate_builtin (b := .append) (xs := #[.tmp 15, .tmp 21]) rfl ?_); at_builtin; refine Kd.R_append k55 (w0 := w) w.heap.size rfl (.tmp 15) (.tmp 21) 22 55 (.agg #[(.string ⟨#[]⟩), (.string ⟨#[]⟩)]) 32 rfl Tryz.underlying22 info55 rfl (by decide) (by omega) u3 ak (⟨ao, ap⟩ : S55) [.string ao, .string ap] (fun _ => True) (fun _ => False) rfl rfl ?aP (fun _ hk => hk.elim) ?aF ?aO ?aB ?aS ?aL ?_; (case aP => exact k55_mkM _ _ _ (⟨ao, ap⟩ : S55)); (case aB => exact (eTx HB.out)); (case aF => exact (fun _ _ => trivial)); (case aO => exact (rT an.out)); (case aS => exact (below_size (eTx HB.out))); (case aL => have := LMc6.out; omega); intro aQ w8 ho hb hg hat; rw [← Ny108.out] at ho; replace HB := am (hb); have aw := am (ho); clear an ho hb hg hat))
     go_roundg k1
     case measure => have := HK1.out; omega
     case rel => exact ⟨(av), (wrap64 (ab + 1)), rfG, H', ⟨by have := HK1.out; omega⟩, ⟨rT aw.out⟩, ⟨eTx HB.out⟩⟩
    ·have au := decide_eq_false c3
     clear c3
     obtain rfl := smI H
     go_wp2
     go_ret
     exact ⟨_, rfF, by (with_reducible repeat (first | apply Kd.R_alloc | apply Kd.R_drewN | apply Kd.R_drew)); exact an.out, eTx HB.out⟩
   ·have ar := decide_eq_false c2
    clear c2
    obtain rfl := smI H
    go_wp2
    go_ret
    exact ⟨_, rfF, by (with_reducible repeat (first | apply Kd.R_alloc | apply Kd.R_drewN | apply Kd.R_drew)); exact an.out, eTx HB.out⟩

end Go.Proofs.YtknmfmedklfepaaGreatDoor.P
