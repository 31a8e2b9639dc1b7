-- half the indentation
import Derived.Test.YtknmfmedklfepaaGreatDoorSqz
import Derived.Test.YtknmfmedklfepaaGreatDoorP0
namespace Go.Proofs.YtknmfmedklfepaaGreatDoor.P
open Go.RowKit Go.Proofs.YtknmfmedklfepaaGreatDoorW.PrintWords Go.Proofs.YtknmfmedklfepaaGreatDoorW.PrintLast Go.Proofs.YtknmfmedklfepaaGreatDoorW.PrintMore
attribute [local go_sem] max2_int min2_int max_two min_two max_three min_three max_four min_four
set_option linter.unusedVariables false
set_option linter.unusedSimpArgs false
set_option maxHeartbeats 8000000
set_option maxRecDepth 100000

/-! ### graftwoodref16_All: function 35 -/
mutual
def graftwoodref16_All.l0 : Nat → List (S63) → List (S55) → Int → Option ((List (S55)))
 | 0, _, _, _ => none
 | k + 1, x0, x3, x4 => if x4 < (x0.length : Int) then (graftwoodref16_All.l1 k x0 x3 x4 0) else (some x3)
def graftwoodref16_All.l1 : Nat → List (S63) → List (S55) → Int → Int → Option ((List (S55)))
 | 0, _, _, _, _ => none
 | k + 1, x0, x3, x4, x5 => if 0 ≤ x4 then (if x4 < (x0.length : Int) then (if x5 < (((rd_T63 x0 x4).f1).length : Int) then (if 0 ≤ x5 then (if x3.length < 4398046511104 then (graftwoodref16_All.l1 k x0 (x3 ++ [(⟨(rd_T63 x0 x4).f0, rdOf ByteArray.empty ((rd_T63 x0 x4).f1) x5⟩ : S55)]) x4 (wrap64 (x5 + 1))) else (none)) else (none)) else (graftwoodref16_All.l0 k x0 x3 (wrap64 (x4 + 1)))) else (none)) else (none)
end
def graftwoodref16_All.f (k : Nat) (l0 : List (S63)) : Option ((List (S55))) := graftwoodref16_All.l0 k l0 ([] : List (S55)) 0
theorem graftwoodref16_All.mono_l : ∀ k, (∀ y0 y1 y2, LeO (graftwoodref16_All.l0 k y0 y1 y2) (graftwoodref16_All.l0 (k + 1) y0 y1 y2)) ∧ (∀ y0 y1 y2 y3, LeO (graftwoodref16_All.l1 k y0 y1 y2 y3) (graftwoodref16_All.l1 (k + 1) y0 y1 y2 y3))
 | 0 => ⟨fun _ _ _ r h => by simp [graftwoodref16_All.l0] at h, fun _ _ _ _ r h => by simp [graftwoodref16_All.l1] at h⟩
 | k + 1 => by
  obtain ⟨ih0, ih1⟩ := graftwoodref16_All.mono_l k
  refine ⟨?_, ?_⟩
  ·intro y0 y1 y2
   unfold graftwoodref16_All.l0
   repeat' first | (with_reducible first | apply ih0 | apply ih1 | apply LeO.refl | apply LeO.none | apply LeO.ite | refine LeO.bind ?_ (fun _ => ?_)) | apply ih0 | apply ih1 | exact LeO.none _ | refine LeO.ite ?_ ?_ | refine LeO.bind ?_ (fun _ => ?_)
  ·intro y0 y1 y2 y3
   unfold graftwoodref16_All.l1
   repeat' first | (with_reducible first | apply ih0 | apply ih1 | apply LeO.refl | apply LeO.none | apply LeO.ite | refine LeO.bind ?_ (fun _ => ?_)) | apply ih0 | apply ih1 | exact LeO.none _ | refine LeO.ite ?_ ?_ | refine LeO.bind ?_ (fun _ => ?_)
theorem graftwoodref16_All.mono : ∀ a0 k, LeO (graftwoodref16_All.f k a0) (graftwoodref16_All.f (k + 1) a0) := by
 intro a0 k
 obtain ⟨ih0, ih1⟩ := graftwoodref16_All.mono_l k
 unfold graftwoodref16_All.f
 repeat' first | (with_reducible first | apply ih0 | apply ih1 | apply LeO.refl | apply LeO.none | apply LeO.ite | refine LeO.bind ?_ (fun _ => ?_)) | apply ih0 | apply ih1 | exact LeO.none _ | refine LeO.ite ?_ ?_ | refine LeO.bind ?_ (fun _ => ?_)
def graftwoodref16_All.T8 : Bool × List (List Nat × List Nat) := (true, [([], []), ([], []), ([], []), ([1, 2], [1, 2]), ([3], [3]), ([4], [4]), ([], []), ([], []), ([6, 7], [6, 7]), ([8], [8]), ([9], [9]), ([], []), ([10, 11], [10, 11]), ([12], [12]), ([5, 13], [5, 13]), ([14], [14]), ([0, 15], [0, 15]), ([16, 16, 0, 1, 2, 3, 4, 5, 6, 7, 8, 9, 10, 11, 12, 13, 14, 15, 16], [0, 16])])
def graftwoodref16_All.B8 : List Nat := [0, 0, 0, 6, 14, 30, 0, 0, 192, 448, 960, 0, 4032, 8128, 16382, 32766, 65535, 131071]
theorem graftwoodref16_All.tab8 : rtab .any (opsOf Tryz.f35 8) = graftwoodref16_All.T8 := by kernel_rfl
theorem graftwoodref16_All.bits8 : waitsOk graftwoodref16_All.T8.2 graftwoodref16_All.B8 = true := by kernel_rfl
theorem graftwoodref16_All.calls (k : Nat) (A0 : Option Addr) (c0 : Nat) (l0 : List (S63)) (r : List (S55)) (w : World) (hr0 : Kd.C k63 w A0 l0.length l0) (hc0 : l0.length ≤ c0) (h : graftwoodref16_All.f k l0 = some r) :
  Calls Tryz.prog 35 #[.slice A0 l0.length c0] w fun e w' => ∃ v0_ : Value, e = .returned (v0_) ∧ Kd.R k55 55 w' w.heap.size (fun _ => True) v0_ r ∧ Below w.heap.size w w' := by
 have hu55 := Tryz.underlying55
 have HR0 := Aside0.mk hr0
 have HC0 := Aside0.mk hc0
 clear hr0 hc0
 have HB := am (Below.refl w.heap.size w)
 unfold graftwoodref16_All.f at h; have H := h; clear h
 have H' := Aside0.mk H
 clear H
 go_enter Tryz.func35, Tryz.ntmps35
 go_wp2
 go_loopg [3, 4] k (fun kq v3 v4 w' => ∃ (ap : List (S55)) (aa : Int), v4 = .int .i64 aa ∧ Aside0 (graftwoodref16_All.l0 kq l0 ap aa = some r) ∧ Aside0 (kq ≤ k) ∧ Aside0 (Kd.R k55 55 w' w.heap.size (fun _ => True) v3 ap) ∧ Aside0 (Below w.heap.size w w'))
 case atStart => exact ⟨(([] : List (S55))), (0), rfG, H', ⟨Nat.le_refl _⟩, ⟨rfM⟩, ⟨eTx HB.out⟩⟩
 case round =>
  clear H'
  obtain ⟨ap, aa, rfl, HA, HK1, aj, HB⟩ := hrel
  cases gk with
  | zero => exact absurd HA.out (by simp [graftwoodref16_All.l0])
  | succ k1 =>
   have H := HA.out
   clear HA
   simp only [graftwoodref16_All.l0] at H
   replace H := ifP H; rcases H with ⟨c2, H⟩ | ⟨c2, H⟩
   ·have ax := decide_eq_true c2
    clear c2
    have H' := Aside0.mk H
    clear H
    go_wp2
    go_loopg [3, 5] k1 (fun kq v3 v5 w' => ∃ (al : List (S55)) (ab : Int), v5 = .int .i64 ab ∧ Aside0 (graftwoodref16_All.l1 kq l0 al aa ab = some r) ∧ Aside0 (kq ≤ k1) ∧ Aside0 (Kd.R k55 55 w' w.heap.size (fun _ => True) v3 al) ∧ Aside0 (Below w.heap.size w w'))
    case atStart => exact ⟨(ap), (0), rfG, H', ⟨Nat.le_refl _⟩, ⟨rT aj.out⟩, ⟨eTx HB.out⟩⟩
    case round =>
     clear H'
     obtain ⟨al, ab, rfl, HA, HK2, aj, HB⟩ := hrel
     cases gk with
     | zero => exact absurd HA.out (by simp [graftwoodref16_All.l1])
     | succ k2 =>
      have H := HA.out
      clear HA
      simp only [graftwoodref16_All.l1] at H
      replace H := ifN H; obtain ⟨c3, H⟩ := H
      have aI := decide_eq_true c3
      clear c3
      replace H := ifN H; obtain ⟨c4, H⟩ := H
      have aJ := decide_eq_true c4
      clear c4
      replace H := ifP H; rcases H with ⟨c5, H⟩ | ⟨c5, H⟩
      ·have aD := decide_eq_true c5
       clear c5
       replace H := ifN H; obtain ⟨c6, H⟩ := H
       have aK := decide_eq_true c6
       clear c6
       replace H := ifN H; obtain ⟨c7, H⟩ := H
       have LMc7 := Aside0.mk c7
       clear c7
       obtain ⟨ay, ak⟩ : ∃ y_ : List (S55), y_ = (al ++ [(⟨(rd_T63 l0 aa).f0, rdOf ByteArray.empty ((rd_T63 l0 aa).f1) ab⟩ : S55)]) := ⟨_, rfl⟩
       replace H : (graftwoodref16_All.l1 k2 l0 ay aa (wrap64 (ab + 1))) = some r := by first | (rw [ak]; with_reducible exact H) | (have H2_ := (Option.bind_some _ _).symm.trans H; rw [ak]; with_reducible exact H2_) | (have H2_ := (Option.bind_some _ _).symm.trans H; with_reducible exact H2_) | with_reducible exact H | (rw [ak]; exact H) | exact H
       have Ny380 := Aside0.mk ak
       clear ak
       have H' := Aside0.mk H
       clear H
       have p376 : 0 ≤ (aa : Int) := of_decide_eq_true rfA
       have q376 : aa < (l0.length : Int) := of_decide_eq_true rfA
       obtain ⟨ad376, av, aw, e376, ac, ad, hl376_1, hi376_1⟩ := at_T63 HR0.out aa p376 q376
       cases e376
       replace ac := (HB.out.cell (World.block_lt_of_cell? w _ ac)).trans ac
       replace ad := (HB.out.cell (World.block_lt_of_cell? w _ ad)).trans ad
       have aq := Aside0.mk hi376_1
       have ar := Aside0.mk hl376_1
       clear hi376_1 hl376_1
       replace p376 := eq_true p376
       replace q376 := eq_true q376
       try go_wp2
       replace aj := am (Kd.R_drew aj.out)
       replace HB := am (below_drew1 HB.out)
       have p377 : 0 ≤ (aa : Int) := of_decide_eq_true rfA
       have q377 : aa < (l0.length : Int) := of_decide_eq_true rfA
       obtain ⟨ad377, aE, ao, e377, ag, ae, hl377_1, hi377_1⟩ := at_T63 HR0.out aa p377 q377
       have hw377_1 := ae
       have hw377_0 := ag
       obtain rfl : ad376 = ad377 := (by injection e377)
       replace ag := (HB.out.cell (World.block_lt_of_cell? w _ ag)).trans ag
       replace ae := (HB.out.cell (World.block_lt_of_cell? w _ ae)).trans ae
       have au := Aside0.mk hi377_1
       have aA := Aside0.mk hl377_1
       clear hi377_1 hl377_1
       replace p377 := eq_true p377
       replace q377 := eq_true q377
       have p378 : 0 ≤ (aa : Int) := of_decide_eq_true rfA
       have q378 : aa < (l0.length : Int) := of_decide_eq_true rfA
       obtain ⟨ad378, aG, aH, e378, ah, af, hl378_1, hi378_1⟩ := at_T63 HR0.out aa p378 q378
       have hw378_1 := af
       have hw378_0 := ah
       obtain rfl : ad376 = ad378 := (by injection e378)
       replace ah := (HB.out.cell (World.block_lt_of_cell? w _ ah)).trans ah
       replace af := (HB.out.cell (World.block_lt_of_cell? w _ af)).trans af
       have an := Aside0.mk hi378_1
       have aC := Aside0.mk hl378_1
       clear hi378_1 hl378_1
       replace p378 := eq_true p378
       replace q378 := eq_true q378
       have ea_ := Option.some.inj (ae.symm.trans af)
       injection ea_ with ea_ en_ ec_
       subst ea_
       subst ec_
       clear en_
       have p379 : 0 ≤ (ab : Int) := of_decide_eq_true rfA
       have q379 : ab < (((rd_T63 l0 aa).f1).length : Int) := of_decide_eq_true rfA
       obtain ⟨ad379, e379, ai⟩ := Kd.at_string an.out ab p379 q379
       have hw379_0 := ai
       cases e379
       replace ai := (HB.out.cell (World.block_lt_of_cell? w _ ai)).trans ai
       replace p379 := eq_true p379
       replace q379 := eq_true q379
       refine start_ (n := 18) (S := fun w' => w'.cell? (ad376.add ((aa).toNat * 2)) = some (.string ((rd_T63 l0 aa).f0)) ∧ w'.cell? ⟨(ad376.add ((aa).toNat * 2)).block, (ad376.add ((aa).toNat * 2)).off + 1, none⟩ = some (.slice (some ad379) ((rd_T63 l0 aa).f1).length ao) ∧ w'.cell? (ad376.add ((aa).toNat * 2)) = some (.string ((rd_T63 l0 aa).f0)) ∧ w'.cell? ⟨(ad376.add ((aa).toNat * 2)).block, (ad376.add ((aa).toNat * 2)).off + 1, none⟩ = some (.slice (some ad379) ((rd_T63 l0 aa).f1).length ao) ∧ w'.cell? (ad379.add (ab).toNat) = some (.string (rdOf ByteArray.empty ((rd_T63 l0 aa).f1) ab))) (ds := []) (bA 18 0) rfK rfl rfK ⟨((HB.out.cell (World.block_lt_of_cell? w _ hw377_0)).trans hw377_0), ((HB.out.cell (World.block_lt_of_cell? w _ hw377_1)).trans hw377_1), ((HB.out.cell (World.block_lt_of_cell? w _ hw378_0)).trans hw378_0), ((HB.out.cell (World.block_lt_of_cell? w _ hw378_1)).trans hw378_1), ((HB.out.cell (World.block_lt_of_cell? w _ hw379_0)).trans hw379_0)⟩ (fun hHeld => ?_); refine with_tabW graftwoodref16_All.tab8 graftwoodref16_All.bits8 (fun HT_ HW_ => ?_)
       generalize wr.drew = w8 at aj HB au an ag ae ah af ai hHeld ⊢
       refine pT 0 22 (bA 18 1) HT_.out ?_
       refine pT 1 23 (bA 18 3) HT_.out ?_
       refine pT 2 24 (bA 18 7) HT_.out ?_
       refine pT 3 25 (bA 18 15) HT_.out ?_
       refine pT 4 26 (bA 18 31) HT_.out ?_
       refine pT 6 28 (bA 18 95) HT_.out ?_
       refine pT 7 29 (bA 18 223) HT_.out ?_
       refine pT 8 30 (bA 18 479) HT_.out ?_
       refine pT 9 31 (bA 18 991) HT_.out ?_
       refine pT 11 33 (bA 18 3039) HT_.out ?_
       refine tT 5 27 (bA 18 3071) HT_.out HW_.out hHeld ?_ (hy := by rintro w' ⟨s0, s1, s2, s3, s4⟩; go_simp; with_reducible rfl)
       refine tT 10 32 (bA 18 4095) HT_.out HW_.out hHeld ?_ (hy := by rintro w' ⟨s0, s1, s2, s3, s4⟩; go_simp; with_reducible rfl)
       refine pT 12 34 (bA 18 8191) HT_.out ?_
       refine tT 13 35 (bA 18 16383) HT_.out HW_.out hHeld ?_ (hy := by rintro w' ⟨s0, s1, s2, s3, s4⟩; go_simp; with_reducible rfl)
       refine pT 14 36 (bA 18 32767) HT_.out ?_
       refine oT 15 (bA 18 65535) HT_.out fun K hK => ?_
       refine value_ (w1 := ?_) (v := ?_) (by rfl) rfl ?_ ?_
       rotate_left 2
       ·go_simp
        constructor
        ·rfl
        ·rfl
       refine hK.out _ _ ⟨(World.cell?_alloc_lt _ _ _ (World.block_lt_of_cell? _ _ (((HB.out.cell (World.block_lt_of_cell? w _ hw377_0)).trans hw377_0)))).trans (((HB.out.cell (World.block_lt_of_cell? w _ hw377_0)).trans hw377_0)), (World.cell?_alloc_lt _ _ _ (World.block_lt_of_cell? _ _ (((HB.out.cell (World.block_lt_of_cell? w _ hw377_1)).trans hw377_1)))).trans (((HB.out.cell (World.block_lt_of_cell? w _ hw377_1)).trans hw377_1)), (World.cell?_alloc_lt _ _ _ (World.block_lt_of_cell? _ _ (((HB.out.cell (World.block_lt_of_cell? w _ hw378_0)).trans hw378_0)))).trans (((HB.out.cell (World.block_lt_of_cell? w _ hw378_0)).trans hw378_0)), (World.cell?_alloc_lt _ _ _ (World.block_lt_of_cell? _ _ (((HB.out.cell (World.block_lt_of_cell? w _ hw378_1)).trans hw378_1)))).trans (((HB.out.cell (World.block_lt_of_cell? w _ hw378_1)).trans hw378_1)), (World.cell?_alloc_lt _ _ _ (World.block_lt_of_cell? _ _ (((HB.out.cell (World.block_lt_of_cell? w _ hw379_0)).trans hw379_0)))).trans (((HB.out.cell (World.block_lt_of_cell? w _ hw379_0)).trans hw379_0))⟩ (fun hHeld => ?_)
       clear hK K
       refine mN 37 ?_
       refine oT 16 (bA 18 131071) HT_.out fun K hK => ?_
       refine Kd.R_append_step k55 (w0 := w) w.heap.size (by rfl) (.tmp 22) (.tmp 37) 22 55 (.agg #[(.string ⟨#[]⟩), (.string ⟨#[]⟩)]) 32 rfl Tryz.underlying22 info55 rfl (by decide) (by omega) u3 al (⟨(rd_T63 l0 aa).f0, rdOf ByteArray.empty ((rd_T63 l0 aa).f1) ab⟩ : S55) [.string ((rd_T63 l0 aa).f0), .string (rdOf ByteArray.empty ((rd_T63 l0 aa).f1) ab)] (fun _ => True) (fun _ => False) rfl rfl ?aP (fun _ hk => hk.elim) ?aF ?aO ?aB ?aS ?aL ?_
       (case aP => exact k55_mkM _ _ _ (⟨(rd_T63 l0 aa).f0, rdOf ByteArray.empty ((rd_T63 l0 aa).f1) ab⟩ : S55))
       (case aB => exact (eTx HB.out))
       (case aF => exact (fun _ _ => trivial))
       (case aO => exact (rT aj.out))
       (case aS => exact (below_size (eTx HB.out)))
       (case aL => have := LMc7.out; omega)
       intro aM w9 ho hb hg hat
       rw [← Ny380.out] at ho
       replace HB := am (hb)
       have az := am (ho)
       clear aj ho hb hg hat
       refine hK.out _ _ ⟨((HB.out.cell (World.block_lt_of_cell? w _ hw377_0)).trans hw377_0), ((HB.out.cell (World.block_lt_of_cell? w _ hw377_1)).trans hw377_1), ((HB.out.cell (World.block_lt_of_cell? w _ hw378_0)).trans hw378_0), ((HB.out.cell (World.block_lt_of_cell? w _ hw378_1)).trans hw378_1), ((HB.out.cell (World.block_lt_of_cell? w _ hw379_0)).trans hw379_0)⟩ (fun hHeld => ?_)
       clear hK K
       refine mN 38 ?_
       refine pT 17 3 (bA 18 262143) HT_.out ?_
       refine done_ (done_of HT_.out rfK) ?_
       try go_wp2
       go_roundg k2
       case measure => have := HK1.out; have := HK2.out; omega
       case rel => exact ⟨(ay), (wrap64 (ab + 1)), rfG, H', ⟨by have := HK1.out; have := HK2.out; omega⟩, ⟨rT az.out⟩, ⟨eTx HB.out⟩⟩
      ·have aD := decide_eq_false c5
       clear c5
       have H' := Aside0.mk H
       clear H
       have p376 : 0 ≤ (aa : Int) := of_decide_eq_true rfA
       have q376 : aa < (l0.length : Int) := of_decide_eq_true rfA
       obtain ⟨ad376, av, aw, e376, ac, ad, hl376_1, hi376_1⟩ := at_T63 HR0.out aa p376 q376
       cases e376
       replace ac := (HB.out.cell (World.block_lt_of_cell? w _ ac)).trans ac
       replace ad := (HB.out.cell (World.block_lt_of_cell? w _ ad)).trans ad
       have aq := Aside0.mk hi376_1
       have ar := Aside0.mk hl376_1
       clear hi376_1 hl376_1
       replace p376 := eq_true p376
       replace q376 := eq_true q376
       go_wp2
       go_roundg k2
       case measure => have := HK1.out; have := HK2.out; omega
       case rel => exact ⟨(al), (wrap64 (aa + 1)), rfG, H', ⟨by have := HK1.out; have := HK2.out; omega⟩, ⟨rT aj.out⟩, ⟨eTx HB.out⟩⟩
   ·have ax := decide_eq_false c2
    clear c2
    obtain rfl := smI H
    go_wp2
    go_ret
    exact ⟨_, rfF, by (with_reducible repeat (first | apply Kd.R_alloc | apply Kd.R_drewN | apply Kd.R_drew)); exact aj.out, eTx HB.out⟩

end Go.Proofs.YtknmfmedklfepaaGreatDoor.P
