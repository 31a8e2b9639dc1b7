-- half the indentation
import Derived.Test.YtknmfmedklfepaaDoorSqz
import Derived.Test.YtknmfmedklfepaaDoorP0
import Derived.Test.YtknmfmedklfepaaDoorP3
namespace Go.Proofs.YtknmfmedklfepaaDoor.P
open Go.RowKit Go.Proofs.YtknmfmedklfepaaDoorW.PrintWords Go.Proofs.YtknmfmedklfepaaDoorW.PrintLast Go.Proofs.YtknmfmedklfepaaDoorW.PrintMore
attribute [local go_sem] max2_int min2_int max_two min_two max_three min_three max_four min_four
set_option linter.unusedVariables false
set_option linter.unusedSimpArgs false
set_option maxHeartbeats 8000000
set_option maxRecDepth 100000

-- HAND: list_Apply: with the text above

/-! ### graftwoodlaw17_Few: function 13 -/
mutual
def graftwoodlaw17_Few.l0 : Nat → List (S41) → List (S41) → Int → Option ((List (S41)))
 | 0, _, _, _ => none
 | k + 1, x0, x3, x4 => if x4 < (x0.length : Int) then (graftwoodlaw17_Few.j1 k x0 x3 x4 (decide (x4 < 20))) else (graftwoodlaw17_Few.j1 k x0 x3 x4 false)
def graftwoodlaw17_Few.j1 : Nat → List (S41) → List (S41) → Int → Bool → Option ((List (S41)))
 | 0, _, _, _, _ => none
 | k + 1, x0, x3, x4, x12 => if x12 = true then (if 0 ≤ x4 then (if x4 < (x0.length : Int) then ((graftwoodlaw01_Few.f ((rd_T41 x0 x4).f0)).bind fun ao => ((graftwoodlaw01_Few.f ((rd_T41 x0 x4).f1)).bind fun an => ((graftwoodlaw01_Few.f ((rd_T41 x0 x4).f2)).bind fun ac => (if x3.length < 2932031007402 then (graftwoodlaw17_Few.l0 k x0 (x3 ++ [(⟨ao, an, ac⟩ : S41)]) (wrap64 (x4 + 1))) else (none))))) else (none)) else (none)) else (some x3)
end
def graftwoodlaw17_Few.f (k : Nat) (l0 : List (S41)) : Option ((List (S41))) := graftwoodlaw17_Few.l0 k l0 ([] : List (S41)) 0
theorem graftwoodlaw17_Few.mono_l : ∀ k, (∀ y0 y1 y2, LeO (graftwoodlaw17_Few.l0 k y0 y1 y2) (graftwoodlaw17_Few.l0 (k + 1) y0 y1 y2)) ∧ (∀ y0 y1 y2 y3, LeO (graftwoodlaw17_Few.j1 k y0 y1 y2 y3) (graftwoodlaw17_Few.j1 (k + 1) y0 y1 y2 y3))
 | 0 => ⟨fun _ _ _ r h => by simp [graftwoodlaw17_Few.l0] at h, fun _ _ _ _ r h => by simp [graftwoodlaw17_Few.j1] at h⟩
 | k + 1 => by
  obtain ⟨ih0, ih1⟩ := graftwoodlaw17_Few.mono_l k
  refine ⟨?_, ?_⟩
  ·intro y0 y1 y2
   unfold graftwoodlaw17_Few.l0
   repeat' first | (with_reducible first | apply ih0 | apply ih1 | apply LeO.refl | apply LeO.none | apply LeO.ite | refine LeO.bind ?_ (fun _ => ?_)) | apply ih0 | apply ih1 | exact LeO.none _ | refine LeO.ite ?_ ?_ | refine LeO.bind ?_ (fun _ => ?_)
  ·intro y0 y1 y2 y3
   unfold graftwoodlaw17_Few.j1
   repeat' first | (with_reducible first | apply ih0 | apply ih1 | apply LeO.refl | apply LeO.none | apply LeO.ite | refine LeO.bind ?_ (fun _ => ?_)) | apply ih0 | apply ih1 | exact LeO.none _ | refine LeO.ite ?_ ?_ | refine LeO.bind ?_ (fun _ => ?_)
theorem graftwoodlaw17_Few.mono : ∀ a0 k, LeO (graftwoodlaw17_Few.f k a0) (graftwoodlaw17_Few.f (k + 1) a0) := by
 intro a0 k
 obtain ⟨ih0, ih1⟩ := graftwoodlaw17_Few.mono_l k
 unfold graftwoodlaw17_Few.f
 repeat' first | (with_reducible first | apply ih0 | apply ih1 | apply LeO.refl | apply LeO.none | apply LeO.ite | refine LeO.bind ?_ (fun _ => ?_)) | apply ih0 | apply ih1 | exact LeO.none _ | refine LeO.ite ?_ ?_ | refine LeO.bind ?_ (fun _ => ?_)
def graftwoodlaw17_Few.T5 : Bool × List (List Nat × List Nat) := (true, [([], []), ([], []), ([], []), ([1, 2], [1, 2]), ([3], [3]), ([4], [4]), ([5], [5]), ([], []), ([], []), ([7, 8], [7, 8]), ([9], [9]), ([10], [10]), ([11, 6], [11]), ([], []), ([], []), ([13, 14], [13, 14]), ([15], [15]), ([16], [16]), ([17, 12], [17]), ([6, 12, 18], [6, 12, 18]), ([19], [19]), ([0, 20, 18], [0, 20]), ([21, 21, 0, 1, 2, 3, 4, 5, 6, 7, 8, 9, 10, 11, 12, 13, 14, 15, 16, 17, 18, 19, 20, 21], [0, 21])])
def graftwoodlaw17_Few.B5 : List Nat := [0, 0, 0, 6, 14, 30, 62, 0, 0, 384, 896, 1920, 4094, 0, 0, 24576, 57344, 122880, 262142, 524286, 1048574, 2097151, 4194303]
theorem graftwoodlaw17_Few.tab5 : rtab .any (opsOf Tryd.f13 5) = graftwoodlaw17_Few.T5 := by kernel_rfl
theorem graftwoodlaw17_Few.bits5 : waitsOk graftwoodlaw17_Few.T5.2 graftwoodlaw17_Few.B5 = true := by kernel_rfl
theorem graftwoodlaw17_Few.calls (k : Nat) (A0 : Option Addr) (c0 : Nat) (l0 : List (S41)) (r : List (S41)) (w : World) (hr0 : Kd.C k41 w A0 l0.length l0) (hc0 : l0.length ≤ c0) (h : graftwoodlaw17_Few.f k l0 = some r) :
  Calls Tryd.prog 13 #[.slice A0 l0.length c0] w fun e w' => ∃ v0_ : Value, e = .returned (v0_) ∧ Kd.R k41 41 w' w.heap.size (fun _ => True) v0_ r ∧ Below w.heap.size w w' := by
 have hu41 := Tryd.underlying41
 have HR0 := Aside0.mk hr0
 have HC0 := Aside0.mk hc0
 clear hr0 hc0
 have HB := am (Below.refl w.heap.size w)
 unfold graftwoodlaw17_Few.f at h; have H := h; clear h
 have H' := Aside0.mk H
 clear H
 go_enter Tryd.func13, Tryd.ntmps13
 go_wp2
 go_loopg [3, 4] k (fun kq v3 v4 w' => ∃ (ab : List (S41)) (aa : Int), v4 = .int .i64 aa ∧ Aside0 (graftwoodlaw17_Few.l0 kq l0 ab aa = some r) ∧ Aside0 (kq ≤ k) ∧ Aside0 (Kd.R k41 41 w' w.heap.size (fun _ => True) v3 ab) ∧ Aside0 (Below w.heap.size w w'))
 case atStart => exact ⟨(([] : List (S41))), (0), rfG, H', ⟨Nat.le_refl _⟩, ⟨rfM⟩, ⟨eTx HB.out⟩⟩
 case round =>
  clear H'
  obtain ⟨ab, aa, rfl, HA, HK1, ap, HB⟩ := hrel
  cases gk with
  | zero => exact absurd HA.out (by simp [graftwoodlaw17_Few.l0])
  | succ k1 =>
   have H := HA.out
   clear HA
   simp only [graftwoodlaw17_Few.l0] at H
   have HC2 := Aside0.mk H
   clear H
   go_upto_region 3 with (fail)
   go_cut [12] (fun v12 wc => ∃ (kq : Nat) (ar : Bool), v12 = .bool ar ∧ Aside0 (graftwoodlaw17_Few.j1 kq l0 ab aa ar = some r) ∧ Aside0 (kq ≤ k1) ∧ Aside0 (Kd.R k41 41 wc w.heap.size (fun _ => True) u3 ab) ∧ Aside0 (Below w.heap.size w wc))
   case first =>
    have H := HC2.out
    clear HC2
    replace H := ifP H; rcases H with ⟨c3, H⟩ | ⟨c3, H⟩
    ·have au := decide_eq_true c3
     clear c3
     (first | rw [au] | (simp only [i64_w, i32_w]; rw [au]) | skip)
     have H' := Aside0.mk H
     clear H
     go_wp2
     go_meet
     case rel => exact ⟨_, (decide (aa < 20)), rfG, H', ⟨by have := HK1.out; first | omega | exact Nat.le_refl _⟩, ⟨rT ap.out⟩, ⟨eTx HB.out⟩⟩
    ·have au := decide_eq_false c3
     clear c3
     (first | rw [au] | (simp only [i64_w, i32_w]; rw [au]) | skip)
     have H' := Aside0.mk H
     clear H
     go_wp2
     go_meet
     case rel => exact ⟨_, (false), rfG, H', ⟨by have := HK1.out; first | omega | exact Nat.le_refl _⟩, ⟨rT ap.out⟩, ⟨eTx HB.out⟩⟩
   case rest =>
    clear HC2
    obtain ⟨kq, ar, rfl, HA, HJ1, ap, HB⟩ := hcut
    cases kq with
    | zero => exact absurd HA.out (by simp [graftwoodlaw17_Few.j1])
    | succ kj1 =>
     have H := HA.out
     clear HA
     simp only [graftwoodlaw17_Few.j1] at H
     replace H := ifB H; rcases H with ⟨rfl, H⟩ | ⟨rfl, H⟩
     ·replace H := ifN H; obtain ⟨c5, H⟩ := H
      have ax := decide_eq_true c5
      clear c5
      replace H := ifN H; obtain ⟨c6, H⟩ := H
      have ay := decide_eq_true c6
      clear c6
      replace H := bnd H; obtain ⟨ao, A7, H⟩ := H
      replace H := bnd H; obtain ⟨an, A8, H⟩ := H
      replace H := bnd H; obtain ⟨ac, A9, H⟩ := H
      replace H := ifN H; obtain ⟨c10, H⟩ := H
      have LMc10 := Aside0.mk c10
      clear c10
      obtain ⟨av, aq⟩ : ∃ y_ : List (S41), y_ = (ab ++ [(⟨ao, an, ac⟩ : S41)]) := ⟨_, rfl⟩
      replace H : (graftwoodlaw17_Few.l0 kj1 l0 av (wrap64 (aa + 1))) = some r := by first | (rw [aq]; with_reducible exact H) | (have H2_ := (Option.bind_some _ _).symm.trans H; rw [aq]; with_reducible exact H2_) | (have H2_ := (Option.bind_some _ _).symm.trans H; with_reducible exact H2_) | with_reducible exact H | (rw [aq]; exact H) | exact H
      have Ny330 := Aside0.mk aq
      clear aq
      have H' := Aside0.mk H
      clear H
      try go_wp2
      replace ap := am (Kd.R_drew ap.out)
      replace HB := am (below_drew1 HB.out)
      have p324 : 0 ≤ (aa : Int) := of_decide_eq_true rfA
      have q324 : aa < (l0.length : Int) := of_decide_eq_true rfA
      obtain ⟨ad324, e324, ad, ae, af⟩ := at_T41 HR0.out aa p324 q324
      have hw324_2 := af
      have hw324_1 := ae
      have hw324_0 := ad
      cases e324
      replace ad := (HB.out.cell (World.block_lt_of_cell? w _ ad)).trans ad
      replace ae := (HB.out.cell (World.block_lt_of_cell? w _ ae)).trans ae
      replace af := (HB.out.cell (World.block_lt_of_cell? w _ af)).trans af
      replace p324 := eq_true p324
      replace q324 := eq_true q324
      have p326 : 0 ≤ (aa : Int) := of_decide_eq_true rfA
      have q326 : aa < (l0.length : Int) := of_decide_eq_true rfA
      obtain ⟨ad326, e326, ag, ah, ai⟩ := at_T41 HR0.out aa p326 q326
      have hw326_2 := ai
      have hw326_1 := ah
      have hw326_0 := ag
      obtain rfl : ad324 = ad326 := (by injection e326)
      replace ag := (HB.out.cell (World.block_lt_of_cell? w _ ag)).trans ag
      replace ah := (HB.out.cell (World.block_lt_of_cell? w _ ah)).trans ah
      replace ai := (HB.out.cell (World.block_lt_of_cell? w _ ai)).trans ai
      replace p326 := eq_true p326
      replace q326 := eq_true q326
      have p328 : 0 ≤ (aa : Int) := of_decide_eq_true rfA
      have q328 : aa < (l0.length : Int) := of_decide_eq_true rfA
      obtain ⟨ad328, e328, aj, ak, al⟩ := at_T41 HR0.out aa p328 q328
      have hw328_2 := al
      have hw328_1 := ak
      have hw328_0 := aj
      obtain rfl : ad324 = ad328 := (by injection e328)
      replace aj := (HB.out.cell (World.block_lt_of_cell? w _ aj)).trans aj
      replace ak := (HB.out.cell (World.block_lt_of_cell? w _ ak)).trans ak
      replace al := (HB.out.cell (World.block_lt_of_cell? w _ al)).trans al
      replace p328 := eq_true p328
      replace q328 := eq_true q328
      refine start_ (n := 23) (S := fun w' => w'.cell? (ad324.add ((aa).toNat * 3)) = some (.string ((rd_T41 l0 aa).f0)) ∧ w'.cell? ⟨(ad324.add ((aa).toNat * 3)).block, (ad324.add ((aa).toNat * 3)).off + 1, none⟩ = some (.string ((rd_T41 l0 aa).f1)) ∧ w'.cell? ⟨(ad324.add ((aa).toNat * 3)).block, (ad324.add ((aa).toNat * 3)).off + 2, none⟩ = some (.string ((rd_T41 l0 aa).f2)) ∧ w'.cell? (ad324.add ((aa).toNat * 3)) = some (.string ((rd_T41 l0 aa).f0)) ∧ w'.cell? ⟨(ad324.add ((aa).toNat * 3)).block, (ad324.add ((aa).toNat * 3)).off + 1, none⟩ = some (.string ((rd_T41 l0 aa).f1)) ∧ w'.cell? ⟨(ad324.add ((aa).toNat * 3)).block, (ad324.add ((aa).toNat * 3)).off + 2, none⟩ = some (.string ((rd_T41 l0 aa).f2)) ∧ w'.cell? (ad324.add ((aa).toNat * 3)) = some (.string ((rd_T41 l0 aa).f0)) ∧ w'.cell? ⟨(ad324.add ((aa).toNat * 3)).block, (ad324.add ((aa).toNat * 3)).off + 1, none⟩ = some (.string ((rd_T41 l0 aa).f1)) ∧ w'.cell? ⟨(ad324.add ((aa).toNat * 3)).block, (ad324.add ((aa).toNat * 3)).off + 2, none⟩ = some (.string ((rd_T41 l0 aa).f2))) (ds := []) (bA 23 0) rfK rfl rfK ⟨((HB.out.cell (World.block_lt_of_cell? w _ hw324_0)).trans hw324_0), ((HB.out.cell (World.block_lt_of_cell? w _ hw324_1)).trans hw324_1), ((HB.out.cell (World.block_lt_of_cell? w _ hw324_2)).trans hw324_2), ((HB.out.cell (World.block_lt_of_cell? w _ hw326_0)).trans hw326_0), ((HB.out.cell (World.block_lt_of_cell? w _ hw326_1)).trans hw326_1), ((HB.out.cell (World.block_lt_of_cell? w _ hw326_2)).trans hw326_2), ((HB.out.cell (World.block_lt_of_cell? w _ hw328_0)).trans hw328_0), ((HB.out.cell (World.block_lt_of_cell? w _ hw328_1)).trans hw328_1), ((HB.out.cell (World.block_lt_of_cell? w _ hw328_2)).trans hw328_2)⟩ (fun hHeld => ?_); refine with_tabW graftwoodlaw17_Few.tab5 graftwoodlaw17_Few.bits5 (fun HT_ HW_ => ?_)
      generalize wc.drew = w11 at ap HB ad ae af ag ah ai aj ak al hHeld ⊢
      refine pT 0 15 (bA 23 1) HT_.out ?_
      refine pT 1 16 (bA 23 3) HT_.out ?_
      refine pT 2 17 (bA 23 7) HT_.out ?_
      refine pT 3 18 (bA 23 15) HT_.out ?_
      refine pT 4 19 (bA 23 31) HT_.out ?_
      refine pT 7 22 (bA 23 159) HT_.out ?_
      refine pT 8 23 (bA 23 415) HT_.out ?_
      refine pT 9 24 (bA 23 927) HT_.out ?_
      refine pT 10 25 (bA 23 1951) HT_.out ?_
      refine pT 13 28 (bA 23 10143) HT_.out ?_
      refine pT 14 29 (bA 23 26527) HT_.out ?_
      refine pT 15 30 (bA 23 59295) HT_.out ?_
      refine pT 16 31 (bA 23 124831) HT_.out ?_
      refine tT 5 20 (bA 23 124863) HT_.out HW_.out hHeld ?_ (hy := by rintro w' ⟨s0, s1, s2, s3, s4, s5, s6, s7, s8⟩; go_simp; with_reducible rfl)
      refine tT 11 26 (bA 23 126911) HT_.out HW_.out hHeld ?_ (hy := by rintro w' ⟨s0, s1, s2, s3, s4, s5, s6, s7, s8⟩; go_simp; with_reducible rfl)
      refine tT 17 32 (bA 23 257983) HT_.out HW_.out hHeld ?_ (hy := by rintro w' ⟨s0, s1, s2, s3, s4, s5, s6, s7, s8⟩; go_simp; with_reducible rfl)
      refine oT 6 (bA 23 258047) HT_.out fun K hK => ?_
      refine gS Tryd.func6 #[.string ((rd_T41 l0 aa).f0)] ?_
      with_reducible refine (graftwoodlaw01_Few.calls ((rd_T41 l0 aa).f0) ao _ A7.out).mono ?_
      rintro e w' ⟨rfl, ⟨nd, rfl⟩⟩
      refine ⟨_, rfl, ?_⟩
      refine hK.out _ _ ⟨((HB.out.cell (World.block_lt_of_cell? w _ hw324_0)).trans hw324_0), ((HB.out.cell (World.block_lt_of_cell? w _ hw324_1)).trans hw324_1), ((HB.out.cell (World.block_lt_of_cell? w _ hw324_2)).trans hw324_2), ((HB.out.cell (World.block_lt_of_cell? w _ hw326_0)).trans hw326_0), ((HB.out.cell (World.block_lt_of_cell? w _ hw326_1)).trans hw326_1), ((HB.out.cell (World.block_lt_of_cell? w _ hw326_2)).trans hw326_2), ((HB.out.cell (World.block_lt_of_cell? w _ hw328_0)).trans hw328_0), ((HB.out.cell (World.block_lt_of_cell? w _ hw328_1)).trans hw328_1), ((HB.out.cell (World.block_lt_of_cell? w _ hw328_2)).trans hw328_2)⟩ (fun hHeld => ?_)
      clear hK K
      refine mN 21 ?_
      refine oT 12 (bA 23 262143) HT_.out fun K hK => ?_
      refine gS Tryd.func6 #[.string ((rd_T41 l0 aa).f1)] ?_
      with_reducible refine (graftwoodlaw01_Few.calls ((rd_T41 l0 aa).f1) an _ A8.out).mono ?_
      rintro e w' ⟨rfl, ⟨nd, rfl⟩⟩
      refine ⟨_, rfl, ?_⟩
      refine hK.out _ _ ⟨((HB.out.cell (World.block_lt_of_cell? w _ hw324_0)).trans hw324_0), ((HB.out.cell (World.block_lt_of_cell? w _ hw324_1)).trans hw324_1), ((HB.out.cell (World.block_lt_of_cell? w _ hw324_2)).trans hw324_2), ((HB.out.cell (World.block_lt_of_cell? w _ hw326_0)).trans hw326_0), ((HB.out.cell (World.block_lt_of_cell? w _ hw326_1)).trans hw326_1), ((HB.out.cell (World.block_lt_of_cell? w _ hw326_2)).trans hw326_2), ((HB.out.cell (World.block_lt_of_cell? w _ hw328_0)).trans hw328_0), ((HB.out.cell (World.block_lt_of_cell? w _ hw328_1)).trans hw328_1), ((HB.out.cell (World.block_lt_of_cell? w _ hw328_2)).trans hw328_2)⟩ (fun hHeld => ?_)
      clear hK K
      refine mN 27 ?_
      refine oT 18 (bA 23 524287) HT_.out fun K hK => ?_
      refine gS Tryd.func6 #[.string ((rd_T41 l0 aa).f2)] ?_
      with_reducible refine (graftwoodlaw01_Few.calls ((rd_T41 l0 aa).f2) ac _ A9.out).mono ?_
      rintro e w' ⟨rfl, ⟨nd, rfl⟩⟩
      refine ⟨_, rfl, ?_⟩
      refine hK.out _ _ ⟨((HB.out.cell (World.block_lt_of_cell? w _ hw324_0)).trans hw324_0), ((HB.out.cell (World.block_lt_of_cell? w _ hw324_1)).trans hw324_1), ((HB.out.cell (World.block_lt_of_cell? w _ hw324_2)).trans hw324_2), ((HB.out.cell (World.block_lt_of_cell? w _ hw326_0)).trans hw326_0), ((HB.out.cell (World.block_lt_of_cell? w _ hw326_1)).trans hw326_1), ((HB.out.cell (World.block_lt_of_cell? w _ hw326_2)).trans hw326_2), ((HB.out.cell (World.block_lt_of_cell? w _ hw328_0)).trans hw328_0), ((HB.out.cell (World.block_lt_of_cell? w _ hw328_1)).trans hw328_1), ((HB.out.cell (World.block_lt_of_cell? w _ hw328_2)).trans hw328_2)⟩ (fun hHeld => ?_)
      clear hK K
      refine mN 33 ?_
      refine pT 19 34 (bA 23 1048575) HT_.out ?_
      refine oT 20 (bA 23 2097151) HT_.out fun K hK => ?_
      refine value_ (w1 := ?_) (v := ?_) (by rfl) rfl ?_ ?_
      rotate_left 2
      ·go_simp
       constructor
       ·rfl
       ·rfl
      refine hK.out _ _ ⟨(World.cell?_alloc_lt _ _ _ (World.block_lt_of_cell? _ _ (((HB.out.cell (World.block_lt_of_cell? w _ hw324_0)).trans hw324_0)))).trans (((HB.out.cell (World.block_lt_of_cell? w _ hw324_0)).trans hw324_0)), (World.cell?_alloc_lt _ _ _ (World.block_lt_of_cell? _ _ (((HB.out.cell (World.block_lt_of_cell? w _ hw324_1)).trans hw324_1)))).trans (((HB.out.cell (World.block_lt_of_cell? w _ hw324_1)).trans hw324_1)), (World.cell?_alloc_lt _ _ _ (World.block_lt_of_cell? _ _ (((HB.out.cell (World.block_lt_of_cell? w _ hw324_2)).trans hw324_2)))).trans (((HB.out.cell (World.block_lt_of_cell? w _ hw324_2)).trans hw324_2)), (World.cell?_alloc_lt _ _ _ (World.block_lt_of_cell? _ _ (((HB.out.cell (World.block_lt_of_cell? w _ hw326_0)).trans hw326_0)))).trans (((HB.out.cell (World.block_lt_of_cell? w _ hw326_0)).trans hw326_0)), (World.cell?_alloc_lt _ _ _ (World.block_lt_of_cell? _ _ (((HB.out.cell (World.block_lt_of_cell? w _ hw326_1)).trans hw326_1)))).trans (((HB.out.cell (World.block_lt_of_cell? w _ hw326_1)).trans hw326_1)), (World.cell?_alloc_lt _ _ _ (World.block_lt_of_cell? _ _ (((HB.out.cell (World.block_lt_of_cell? w _ hw326_2)).trans hw326_2)))).trans (((HB.out.cell (World.block_lt_of_cell? w _ hw326_2)).trans hw326_2)), (World.cell?_alloc_lt _ _ _ (World.block_lt_of_cell? _ _ (((HB.out.cell (World.block_lt_of_cell? w _ hw328_0)).trans hw328_0)))).trans (((HB.out.cell (World.block_lt_of_cell? w _ hw328_0)).trans hw328_0)), (World.cell?_alloc_lt _ _ _ (World.block_lt_of_cell? _ _ (((HB.out.cell (World.block_lt_of_cell? w _ hw328_1)).trans hw328_1)))).trans (((HB.out.cell (World.block_lt_of_cell? w _ hw328_1)).trans hw328_1)), (World.cell?_alloc_lt _ _ _ (World.block_lt_of_cell? _ _ (((HB.out.cell (World.block_lt_of_cell? w _ hw328_2)).trans hw328_2)))).trans (((HB.out.cell (World.block_lt_of_cell? w _ hw328_2)).trans hw328_2))⟩ (fun hHeld => ?_)
      clear hK K
      refine mN 35 ?_
      refine oT 21 (bA 23 4194303) HT_.out fun K hK => ?_
      refine Kd.R_append_step k41 (w0 := w) w.heap.size (by rfl) (.tmp 15) (.tmp 35) 25 41 (.agg #[(.string ⟨#[]⟩), (.string ⟨#[]⟩), (.string ⟨#[]⟩)]) 48 rfl Tryd.underlying25 info41 rfl (by decide) (by omega) u3 ab (⟨ao, an, ac⟩ : S41) [.string ao, .string an, .string ac] (fun _ => True) (fun _ => False) rfl rfl ?aP (fun _ hk => hk.elim) ?aF ?aO ?aB ?aS ?aL ?_
      (case aP => exact k41_mkM _ _ _ (⟨ao, an, ac⟩ : S41))
      (case aB => exact (eTx HB.out))
      (case aF => exact (fun _ _ => trivial))
      (case aO => exact (rT ap.out))
      (case aS => exact (below_size (eTx HB.out)))
      (case aL => have := LMc10.out; omega)
      intro az w12 ho hb hg hat
      rw [← Ny330.out] at ho
      replace HB := am (hb)
      have aw := am (ho)
      clear ap ho hb hg hat
      refine hK.out _ _ ⟨((HB.out.cell (World.block_lt_of_cell? w _ hw324_0)).trans hw324_0), ((HB.out.cell (World.block_lt_of_cell? w _ hw324_1)).trans hw324_1), ((HB.out.cell (World.block_lt_of_cell? w _ hw324_2)).trans hw324_2), ((HB.out.cell (World.block_lt_of_cell? w _ hw326_0)).trans hw326_0), ((HB.out.cell (World.block_lt_of_cell? w _ hw326_1)).trans hw326_1), ((HB.out.cell (World.block_lt_of_cell? w _ hw326_2)).trans hw326_2), ((HB.out.cell (World.block_lt_of_cell? w _ hw328_0)).trans hw328_0), ((HB.out.cell (World.block_lt_of_cell? w _ hw328_1)).trans hw328_1), ((HB.out.cell (World.block_lt_of_cell? w _ hw328_2)).trans hw328_2)⟩ (fun hHeld => ?_)
      clear hK K
      refine mN 36 ?_
      refine pT 22 3 (bA 23 8388607) HT_.out ?_
      refine done_ (done_of HT_.out rfK) ?_
      try go_wp2
      go_roundg kj1
      case measure => have := HK1.out; have := HJ1.out; omega
      case rel => exact ⟨(av), (wrap64 (aa + 1)), rfG, H', ⟨by have := HK1.out; have := HJ1.out; omega⟩, ⟨rT aw.out⟩, ⟨eTx HB.out⟩⟩
     ·obtain rfl := smI H
      go_wp2
      go_ret
      exact ⟨_, rfF, by (with_reducible repeat (first | apply Kd.R_alloc | apply Kd.R_drewN | apply Kd.R_drew)); exact ap.out, eTx HB.out⟩

-- HAND: list_Above: with the text above

end Go.Proofs.YtknmfmedklfepaaDoor.P
