-- half the indentation
import Derived.Test.YtknmfmedklfepaaGreatDoorSqz
import Derived.Test.YtknmfmedklfepaaGreatDoorP0
import Derived.Test.YtknmfmedklfepaaGreatDoorP30
import Derived.Test.YtknmfmedklfepaaGreatDoorP31
import Derived.Test.YtknmfmedklfepaaGreatDoorP33
namespace Go.Proofs.YtknmfmedklfepaaGreatDoor.P
open Go.RowKit Go.Proofs.YtknmfmedklfepaaGreatDoorW.PrintWords Go.Proofs.YtknmfmedklfepaaGreatDoorW.PrintLast Go.Proofs.YtknmfmedklfepaaGreatDoorW.PrintMore
attribute [local go_sem] max2_int min2_int max_two min_two max_three min_three max_four min_four
set_option linter.unusedVariables false
set_option linter.unusedSimpArgs false
set_option maxHeartbeats 8000000
set_option maxRecDepth 100000

/-! ### graftwoodref16_Of: function 37 -/
def graftwoodref16_Of.l0 : Nat → List (S55) → List (S63) → Int → Option ((List (S63)))
 | 0, _, _, _ => none
 | k + 1, x0, x3, x4 => if x4 < (x0.length : Int) then (if x4 = 0 then (if 0 ≤ x4 then (if x3.length < 3518437208883 then ((some (x3 ++ [(⟨(rd_T55 x0 x4).f0, ([] : List ByteArray)⟩ : S63)] : List (S63))).bind fun ac => (if 0 ≤ (wrap64 ((ac.length : Int) - 1)) then (if (wrap64 ((ac.length : Int) - 1)) < (ac.length : Int) then (if ((rd_T63 ac (wrap64 ((ac.length : Int) - 1))).f1).length < 8796093022208 then (graftwoodref16_Of.l0 k x0 (ac.set ((wrap64 ((ac.length : Int) - 1)) : Int).toNat (⟨(rd_T63 ac (wrap64 ((ac.length : Int) - 1))).f0, (((rd_T63 ac (wrap64 ((ac.length : Int) - 1))).f1) ++ [(rd_T55 x0 x4).f1])⟩ : S63)) (wrap64 (x4 + 1))) else (none)) else (none)) else (none))) else (none)) else (none)) else (if 0 ≤ x4 then (if 0 ≤ (wrap64 (x4 - 1)) then (if (wrap64 (x4 - 1)) < (x0.length : Int) then (if ((rd_T55 x0 x4).f0).toList = ((rd_T55 x0 (wrap64 (x4 - 1))).f0).toList then (if 0 ≤ (wrap64 ((x3.length : Int) - 1)) then (if (wrap64 ((x3.length : Int) - 1)) < (x3.length : Int) then (if ((rd_T63 x3 (wrap64 ((x3.length : Int) - 1))).f1).length < 8796093022208 then (graftwoodref16_Of.l0 k x0 (x3.set ((wrap64 ((x3.length : Int) - 1)) : Int).toNat (⟨(rd_T63 x3 (wrap64 ((x3.length : Int) - 1))).f0, (((rd_T63 x3 (wrap64 ((x3.length : Int) - 1))).f1) ++ [(rd_T55 x0 x4).f1])⟩ : S63)) (wrap64 (x4 + 1))) else (none)) else (none)) else (none)) else (if x3.length < 3518437208883 then ((some (x3 ++ [(⟨(rd_T55 x0 x4).f0, ([] : List ByteArray)⟩ : S63)] : List (S63))).bind fun ab => (if 0 ≤ (wrap64 ((ab.length : Int) - 1)) then (if (wrap64 ((ab.length : Int) - 1)) < (ab.length : Int) then (if ((rd_T63 ab (wrap64 ((ab.length : Int) - 1))).f1).length < 8796093022208 then (graftwoodref16_Of.l0 k x0 (ab.set ((wrap64 ((ab.length : Int) - 1)) : Int).toNat (⟨(rd_T63 ab (wrap64 ((ab.length : Int) - 1))).f0, (((rd_T63 ab (wrap64 ((ab.length : Int) - 1))).f1) ++ [(rd_T55 x0 x4).f1])⟩ : S63)) (wrap64 (x4 + 1))) else (none)) else (none)) else (none))) else (none))) else (none)) else (none)) else (none))) else (some x3)
def graftwoodref16_Of.f (k : Nat) (l0 : List (S55)) : Option ((List (S63))) := graftwoodref16_Of.l0 k l0 ([] : List (S63)) 0
theorem graftwoodref16_Of.mono_l : ∀ k, (∀ y0 y1 y2, LeO (graftwoodref16_Of.l0 k y0 y1 y2) (graftwoodref16_Of.l0 (k + 1) y0 y1 y2))
 | 0 => fun _ _ _ r h => by simp [graftwoodref16_Of.l0] at h
 | k + 1 => by
  have ih0 := graftwoodref16_Of.mono_l k
  ·intro y0 y1 y2
   unfold graftwoodref16_Of.l0
   repeat' first | (with_reducible first | apply ih0 | apply LeO.refl | apply LeO.none | apply LeO.ite | refine LeO.bind ?_ (fun _ => ?_)) | apply ih0 | exact LeO.none _ | refine LeO.ite ?_ ?_ | refine LeO.bind ?_ (fun _ => ?_)
theorem graftwoodref16_Of.mono : ∀ a0 k, LeO (graftwoodref16_Of.f k a0) (graftwoodref16_Of.f (k + 1) a0) := by
 intro a0 k
 have ih0 := graftwoodref16_Of.mono_l k
 unfold graftwoodref16_Of.f
 repeat' first | (with_reducible first | apply ih0 | apply LeO.refl | apply LeO.none | apply LeO.ite | refine LeO.bind ?_ (fun _ => ?_)) | apply ih0 | exact LeO.none _ | refine LeO.ite ?_ ?_ | refine LeO.bind ?_ (fun _ => ?_)
def graftwoodref16_Of.T5 : Bool × List (List Nat × List Nat) := (true, [([], []), ([0], [0]), ([1], [1]), ([2], [2]), ([2], [2]), ([3, 4, 2], [2, 3, 4]), ([5, 2], [2, 5]), ([6, 2], [2, 6]), ([2], [2]), ([2], [2]), ([9, 2], [2, 9]), ([8, 10, 2], [2, 8, 10]), ([11, 2], [2, 11]), ([12, 2], [2, 12]), ([7, 13, 2], [2, 7, 13]), ([2, 14], [2, 14])])
def graftwoodref16_Of.B5 : List Nat := [0, 1, 3, 7, 7, 31, 63, 127, 7, 7, 519, 1799, 3847, 7943, 16383, 32767]
theorem graftwoodref16_Of.tab5 : rtab .any (opsOf Tryz.f37 5) = graftwoodref16_Of.T5 := by kernel_rfl
theorem graftwoodref16_Of.bits5 : waitsOk graftwoodref16_Of.T5.2 graftwoodref16_Of.B5 = true := by kernel_rfl
def graftwoodref16_Of.T8 : Bool × List (List Nat × List Nat) := (true, [([], []), ([], []), ([], []), ([], []), ([2, 3], [2, 3]), ([4], [4]), ([5], [5]), ([], []), ([], []), ([7, 8], [7, 8]), ([9], [9]), ([10], [10]), ([11], [11]), ([6, 12], [6, 12]), ([0, 1, 0, 1, 2, 3, 4, 5, 6, 7, 8, 9, 10, 11, 12, 13], [0, 1]), ([14, 0, 1, 2, 3, 4, 5, 6, 7, 8, 9, 10, 11, 12, 13], [14]), ([15, 13, 13, 0, 1, 2, 3, 4, 5, 6, 7, 8, 9, 10, 11, 12, 13], [13, 15])])
def graftwoodref16_Of.B8 : List Nat := [0, 0, 0, 0, 12, 28, 60, 0, 0, 384, 896, 1920, 3968, 8188, 16383, 32767, 65535]
theorem graftwoodref16_Of.tab8 : rtab .any (opsOf Tryz.f37 8) = graftwoodref16_Of.T8 := by kernel_rfl
theorem graftwoodref16_Of.bits8 : waitsOk graftwoodref16_Of.T8.2 graftwoodref16_Of.B8 = true := by kernel_rfl
theorem graftwoodref16_Of.calls (k : Nat) (A0 : Option Addr) (c0 : Nat) (l0 : List (S55)) (r : List (S63)) (w : World) (hr0 : Kd.C k55 w A0 l0.length l0) (hc0 : l0.length ≤ c0) (h : graftwoodref16_Of.f k l0 = some r) :
  Calls Tryz.prog 37 #[.slice A0 l0.length c0] w fun e w' => ∃ v0_ : Value, e = .returned (v0_) ∧ Kd.S k63 63 w' w.heap.size (fun _ => True) v0_ r ∧ Below w.heap.size w w' := by
 have hu63 := Tryz.underlying63
 have HR0 := Aside0.mk hr0
 have HC0 := Aside0.mk hc0
 clear hr0 hc0
 have HB := am (Below.refl w.heap.size w)
 unfold graftwoodref16_Of.f at h; have H := h; clear h
 have H' := Aside0.mk H
 clear H
 go_enter Tryz.func37, Tryz.ntmps37
 go_wp2
 go_loopg [3, 4] k (fun kq v3 v4 w' => ∃ (ad : List (S63)) (aa : Int), v4 = .int .i64 aa ∧ Aside0 (graftwoodref16_Of.l0 kq l0 ad aa = some r) ∧ Aside0 (kq ≤ k) ∧ Aside0 (Kd.S k63 63 w' w.heap.size (fun _ => True) v3 ad) ∧ Aside0 (Below w.heap.size w w'))
 case atStart => exact ⟨(([] : List (S63))), (0), rfG, H', ⟨Nat.le_refl _⟩, ⟨by first | exact Kd.S_nil _ _ _ _ _ | exact Kd.N_nil _ _ _ _ _ | exact Kd.V_nil _ _ _ _ _ | exact Kd.Q_nil _ _ _ _ _ | exact Kd.R_nil _ _ _ _ _⟩, ⟨eTx HB.out⟩⟩
 case round =>
  clear H'
  obtain ⟨ad, aa, rfl, HA, HK1, aj, HB⟩ := hrel
  cases gk with
  | zero => exact absurd HA.out (by simp [graftwoodref16_Of.l0])
  | succ k1 =>
   have H := HA.out
   clear HA
   simp only [graftwoodref16_Of.l0] at H
   replace H := ifP H; rcases H with ⟨c2, H⟩ | ⟨c2, H⟩
   ·have b5 := decide_eq_true c2
    clear c2
    replace H := ifP H; rcases H with ⟨c3, H⟩ | ⟨c3, H⟩
    ·have b6 := beq_iff_eq.mpr c3
     have b7 := bne_eq_false_iff_eq.mpr c3
     clear c3
     replace H := ifN H; obtain ⟨c4, H⟩ := H
     have cs := decide_eq_true c4
     clear c4
     replace H := ifN H; obtain ⟨c5, H⟩ := H
     have LMc5 := Aside0.mk c5
     clear c5
     obtain ⟨ac, aY⟩ : ∃ y_ : List (S63), y_ = (ad ++ [(⟨(rd_T55 l0 aa).f0, ([] : List ByteArray)⟩ : S63)]) := ⟨_, rfl⟩
     replace H : (if 0 ≤ (wrap64 ((ac.length : Int) - 1)) then (if (wrap64 ((ac.length : Int) - 1)) < (ac.length : Int) then (if ((rd_T63 ac (wrap64 ((ac.length : Int) - 1))).f1).length < 8796093022208 then (graftwoodref16_Of.l0 k1 l0 (ac.set ((wrap64 ((ac.length : Int) - 1)) : Int).toNat (⟨(rd_T63 ac (wrap64 ((ac.length : Int) - 1))).f0, (((rd_T63 ac (wrap64 ((ac.length : Int) - 1))).f1) ++ [(rd_T55 l0 aa).f1])⟩ : S63)) (wrap64 (aa + 1))) else (none)) else (none)) else (none)) = some r := by first | (rw [aY]; with_reducible exact H) | (have H2_ := (Option.bind_some _ _).symm.trans H; rw [aY]; with_reducible exact H2_) | (have H2_ := (Option.bind_some _ _).symm.trans H; with_reducible exact H2_) | with_reducible exact H | (rw [aY]; exact H) | exact H
     have Ny391 := Aside0.mk aY
     clear aY
     obtain ⟨ji6, bC⟩ : ∃ j_ : Int, (wrap64 ((ac.length : Int) - 1)) = j_ := ⟨_, rfl⟩
     replace H : (if 0 ≤ (ji6) then (if (ji6) < (ac.length : Int) then (if ((rd_T63 ac (ji6)).f1).length < 8796093022208 then (graftwoodref16_Of.l0 k1 l0 (ac.set ((ji6) : Int).toNat (⟨(rd_T63 ac (ji6)).f0, (((rd_T63 ac (ji6)).f1) ++ [(rd_T55 l0 aa).f1])⟩ : S63)) (wrap64 (aa + 1))) else (none)) else (none)) else (none)) = some r := by first | (rw [bC] at H; exact H) | (simp only [bC] at H ⊢; exact H)
     have ck : (IntKind.i64.wrap ((ac.length : Int) - 1)) = ji6 := (i64_w _).trans bC
     replace H := ifN H; obtain ⟨c7, H⟩ := H
     have ct := decide_eq_true c7
     clear c7
     replace H := ifN H; obtain ⟨c8, H⟩ := H
     have cu := decide_eq_true c8
     clear c8
     replace H := ifN H; obtain ⟨c9, H⟩ := H
     have LMc9 := Aside0.mk c9
     clear c9
     obtain ⟨bi, aZ⟩ : ∃ y_ : List ByteArray, y_ = (((rd_T63 ac (ji6)).f1) ++ [(rd_T55 l0 aa).f1]) := ⟨_, rfl⟩
     replace H : (graftwoodref16_Of.l0 k1 l0 (ac.set ((ji6) : Int).toNat (⟨(rd_T63 ac (ji6)).f0, bi⟩ : S63)) (wrap64 (aa + 1))) = some r := by first | (rw [aZ]; with_reducible exact H) | (have H2_ := (Option.bind_some _ _).symm.trans H; rw [aZ]; with_reducible exact H2_) | (have H2_ := (Option.bind_some _ _).symm.trans H; with_reducible exact H2_) | with_reducible exact H | (rw [aZ]; exact H) | exact H
     have Ny396 := Aside0.mk aZ
     clear aZ
     obtain ⟨bK, a1⟩ : ∃ y_ : List (S63), y_ = (ac.set ((ji6) : Int).toNat (⟨(rd_T63 ac (ji6)).f0, bi⟩ : S63)) := ⟨_, rfl⟩
     replace H : (graftwoodref16_Of.l0 k1 l0 bK (wrap64 (aa + 1))) = some r := by first | (rw [a1]; with_reducible exact H) | (have H2_ := (Option.bind_some _ _).symm.trans H; rw [a1]; with_reducible exact H2_) | (have H2_ := (Option.bind_some _ _).symm.trans H; with_reducible exact H2_) | with_reducible exact H | (rw [a1]; exact H) | exact H
     have Ny399 := Aside0.mk a1
     clear a1
     have H' := Aside0.mk H
     clear H
     try go_wp2
     replace aj := am (Kd.S_drew aj.out)
     replace HB := am (below_drew1 HB.out)
     refine start_ (n := 16) (S := fun w' => True) (ds := []) (bA 16 0) rfK rfl rfK trivial (fun hHeld => ?_); refine with_tabW graftwoodref16_Of.tab5 graftwoodref16_Of.bits5 (fun HT_ HW_ => ?_)
     generalize wr.drew = w11 at aj HB hHeld ⊢
     refine pT 0 12 (bA 16 1) HT_.out ?_
     refine pT 1 13 (bA 16 3) HT_.out ?_
     refine pT 2 14 (bA 16 7) HT_.out ?_
     refine pU 3 15 (bA 16 15) HT_.out ?_
     refine pU 4 16 (bA 16 31) HT_.out ?_
     refine pU 5 17 (bA 16 63) HT_.out ?_
     refine pU 6 18 (bA 16 127) HT_.out ?_
     refine pU 7 19 (bA 16 255) HT_.out ?_
     refine pU 8 20 (bA 16 511) HT_.out ?_
     refine pU 9 21 (bA 16 1023) HT_.out ?_
     refine pU 10 22 (bA 16 2047) HT_.out ?_
     refine pU 11 23 (bA 16 4095) HT_.out ?_
     refine pU 12 24 (bA 16 8191) HT_.out ?_
     refine pU 13 25 (bA 16 16383) HT_.out ?_
     refine pU 14 26 (bA 16 32767) HT_.out ?_
     refine pT 15 27 (bA 16 65535) HT_.out ?_
     refine done_ (done_of HT_.out rfK) ?_
     have p390 : 0 ≤ (aa : Int) := of_decide_eq_true rfA
     have q390 : aa < (l0.length : Int) := of_decide_eq_true rfA
     obtain ⟨ad390, e390, aN, aQ⟩ := at_T55 HR0.out aa p390 q390
     cases e390
     replace aN := (HB.out.cell (World.block_lt_of_cell? w _ aN)).trans aN
     replace aQ := (HB.out.cell (World.block_lt_of_cell? w _ aQ)).trans aQ
     replace p390 := eq_true p390
     replace q390 := eq_true q390
     try go_wp2_with (first | ((with_reducible refine gate_builtin (b := .append) (xs := #[.tmp 28, .tmp 35]) rfl ?_); at_builtin; refine Kd.S_append k63 (w0 := w) w.heap.size rfl (.tmp 28) (.tmp 35) 23 63 (.agg #[(.string ⟨#[]⟩), (.slice none 0 0)]) 40 rfl Tryz.underlying23 info63 rfl (by decide) (by omega) u3 ad (⟨(rd_T55 l0 aa).f0, ([] : List ByteArray)⟩ : S63) [.string ((rd_T55 l0 aa).f0), .slice none 0 0] (fun _ => True) (fun _ => False) rfl rfl ?aP (fun k_ hk_ => hk_.elim) ?aF ?aO ?aB ?aS ?aL ?_; (case aP => exact k63_mkM _ _ _ (⟨(rd_T55 l0 aa).f0, ([] : List ByteArray)⟩ : S63) (Kd.R_nil _ _ _ _ _)); (case aB => exact (eTx HB.out)); (case aF => exact (fun _ _ => trivial)); (case aO => exact (by (with_reducible repeat (first | apply Kd.S_alloc | apply Kd.S_drewN | apply Kd.S_drew)); exact Kd.S_mono aj.out (fun k_ hk => ⟨trivial, fun e_ => e_⟩))); (case aS => exact (below_size (eTx HB.out))); (case aL => have := LMc5.out; omega); intro cv w12 ho hb hg hat; rw [← Ny391.out] at ho; replace HB := am (hb); have aq := am (ho); clear aj ho hb hg hat; obtain ⟨bL, bM, bD⟩ := Kd.S_slice aq.out; subst bD))
     replace aq := am (Kd.S_drew aq.out)
     replace HB := am (below_drew1 HB.out)
     have p394 : 0 ≤ ((ji6) : Int) := of_decide_eq_true rfA
     have q394 : (ji6) < (ac.length : Int) := of_decide_eq_true rfA
     obtain ⟨ad394, a8, a9, e394, aR, aw, hl394_1, hi394_1⟩ := at_T63 (Kd.S_reads' aq.out).2.2 (ji6) p394 q394
     cases e394
     obtain ⟨ce394, hce394, hMe394, hcc394⟩ := Kd.S_get aq.out z63 (ji6) p394 (by first | exact q394 | exact of_decide_eq_true rfA | (have e_ := (Kd.S_reads' aq.out).1; omega))
     obtain ⟨ve394_1, rfl, ge394_1⟩ := k63_openM hMe394
     have ax := hcc394 1 _ rfl
     rw [add_field _ _ 1 (by omega)] at ax
     replace ax := Option.some.inj (ax.symm.trans aw)
     rw [ax] at ge394_1
     have ag := am (show Kd.R Kd.string 9 _ _ _ _ ((rd_T63 ac (ji6)).f1) from ge394_1)
     clear ax ge394_1
     have bf := Aside0.mk aw
     clear hcc394 hce394
     have bq := Aside0.mk hi394_1
     have b2 := Aside0.mk hl394_1
     clear hi394_1 hl394_1
     replace p394 := eq_true p394
     replace q394 := eq_true q394
     have p395 : 0 ≤ (aa : Int) := of_decide_eq_true rfA
     have q395 : aa < (l0.length : Int) := of_decide_eq_true rfA
     obtain ⟨ad395, e395, ay, az⟩ := at_T55 HR0.out aa p395 q395
     have hw395_1 := az
     have hw395_0 := ay
     obtain rfl : ad390 = ad395 := (by injection e395)
     replace ay := (HB.out.cell (World.block_lt_of_cell? w _ ay)).trans ay
     replace az := (HB.out.cell (World.block_lt_of_cell? w _ az)).trans az
     replace p395 := eq_true p395
     replace q395 := eq_true q395
     obtain ⟨go15, cw, bN, bO, gl15, cl15, HG15⟩ := Kd.S_form aq.out (by have h_ : ((ji6) : Int) < ((ac.length : Int) : Int) := of_decide_eq_true rfA; have h2_ : 0 ≤ ((ji6) : Int) := (of_decide_eq_true rfA); omega)
     (first | cases bN | (injection bN with ea_ en_ ec_; (first | subst ea_ | (injection ea_ with ea_; subst ea_)); subst ec_; clear en_))
     have GB15 := Aside0.mk bO
     have GG15 := Aside0.mk HG15
     clear bO gl15 HG15
     (first | simp only [add_plain] at aR | skip)
     (first | simp only [add_plain] at aw | skip)
     obtain ⟨oki15, ce15, hcl15, hM15, hcc15, _, _, hH15⟩ := Kd.S_elem aq.out z63 ((ji6) : Int) (of_decide_eq_true rfA) (by have h_ : ((ji6) : Int) < ((ac.length : Int) : Int) := of_decide_eq_true rfA; first | exact h_ | (have e_ := (Kd.S_reads' aq.out).1; omega) | simpa using h_)
     obtain ⟨ve15_1, rfl, ge15_1⟩ := k63_openM hM15
     have br := hcc15 1 _ rfl
     have hX15 := bf.out
     (try simp only [add_plain] at hX15)
     (try simp only [Nat.add_zero] at br)
     replace br := Option.some.inj (br.symm.trans hX15)
     subst br
     clear hX15 hcc15 hcl15
     have UU15 := am (show Kd.R Kd.string 9 _ w.heap.size oki15 (.slice a8 ((rd_T63 ac (ji6)).f1).length a9) ((rd_T63 ac (ji6)).f1) from ge15_1)
     have HH15 := Aside0.mk hH15
     have HN15 := am (Kd.S_reads' aq.out).1
     clear hH15 ge15_1
     refine start_ (n := 17) (S := fun w' => w'.cell? ⟨go15, ((ji6)).toNat * 2, none⟩ = some (.string ((rd_T63 ac (ji6)).f0)) ∧ w'.cell? ⟨go15, ((ji6)).toNat * 2 + 1, none⟩ = some (.slice a8 ((rd_T63 ac (ji6)).f1).length a9) ∧ w'.cell? (ad390.add ((aa).toNat * 2)) = some (.string ((rd_T55 l0 aa).f0)) ∧ w'.cell? ⟨(ad390.add ((aa).toNat * 2)).block, (ad390.add ((aa).toNat * 2)).off + 1, none⟩ = some (.string ((rd_T55 l0 aa).f1))) (ds := [16]) (bA 17 0) rfK rfl rfK ⟨aR, aw, ((HB.out.cell (World.block_lt_of_cell? w _ hw395_0)).trans hw395_0), ((HB.out.cell (World.block_lt_of_cell? w _ hw395_1)).trans hw395_1)⟩ (fun hHeld => ?_); refine with_tabW graftwoodref16_Of.tab8 graftwoodref16_Of.bits8 (fun HT_ HW_ => ?_)
     generalize w12.drew = w14 at aq HB GG15 HH15 ag bq bf UU15 aR aw ay az hHeld ⊢
     refine pT 0 40 (bA 17 1) HT_.out ?_
     refine pT 1 41 (bA 17 3) HT_.out ?_
     refine pT 2 42 (bA 17 7) HT_.out ?_
     refine pT 3 43 (bA 17 15) HT_.out ?_
     refine pT 4 44 (bA 17 31) HT_.out ?_
     refine pT 5 45 (bA 17 63) HT_.out ?_
     refine pT 7 47 (bA 17 191) HT_.out ?_
     refine pT 8 48 (bA 17 447) HT_.out ?_
     refine pT 9 49 (bA 17 959) HT_.out ?_
     refine pT 10 50 (bA 17 1983) HT_.out ?_
     refine tT 6 46 (bA 17 2047) HT_.out HW_.out hHeld ?_ (hy := by rintro w' ⟨s0, s1, s2, s3⟩; go_simp; with_reducible rfl)
     refine tT 11 51 (bA 17 4095) HT_.out HW_.out hHeld ?_ (hy := by rintro w' ⟨s0, s1, s2, s3⟩; go_simp; with_reducible rfl)
     refine oT 12 (bA 17 8191) HT_.out fun K hK => ?_
     refine value_ (w1 := ?_) (v := ?_) (by rfl) rfl ?_ ?_
     rotate_left 2
     ·go_simp
      constructor
      ·rfl
      ·rfl
     refine hK.out _ _ ⟨(World.cell?_alloc_lt _ _ _ (World.block_lt_of_cell? _ _ (hHeld.1))).trans (hHeld.1), (World.cell?_alloc_lt _ _ _ (World.block_lt_of_cell? _ _ (hHeld.2.1))).trans (hHeld.2.1), (World.cell?_alloc_lt _ _ _ (World.block_lt_of_cell? _ _ (((HB.out.cell (World.block_lt_of_cell? w _ hw395_0)).trans hw395_0)))).trans (((HB.out.cell (World.block_lt_of_cell? w _ hw395_0)).trans hw395_0)), (World.cell?_alloc_lt _ _ _ (World.block_lt_of_cell? _ _ (((HB.out.cell (World.block_lt_of_cell? w _ hw395_1)).trans hw395_1)))).trans (((HB.out.cell (World.block_lt_of_cell? w _ hw395_1)).trans hw395_1))⟩ (fun hHeld => ?_)
     clear hK K
     refine mN 52 ?_
     refine oT 13 (bA 17 16383) HT_.out fun K hK => ?_
     refine Kd.R_append_step Kd.string (w0 := w) w.heap.size (by rfl) (.tmp 46) (.tmp 52) 61 9 (.string ⟨#[]⟩) 16 rfl Tryz.underlying61 info9 rfl (by decide) (by omega) (.slice a8 ((rd_T63 ac (ji6)).f1).length a9) ((rd_T63 ac (ji6)).f1) ((rd_T55 l0 aa).f1) [.string ((rd_T55 l0 aa).f1)] (fun k_ => oki15 k_ ∨ ((fun _ => True)) k_ ∧ w14.heap.size ≤ k_) (fun _ => False) rfl rfl ?aP (fun _ hk => hk.elim) ?aF ?aO ?aB ?aS ?aL ?_
     (case aP => exact rfl)
     (case aB => exact (eTx HB.out))
     (case aF => exact (fun k_ hk => .inr ⟨trivial, hk⟩))
     (case aO => exact (by (with_reducible repeat (first | apply Kd.R_alloc | apply Kd.R_drewN | apply Kd.R_drew)); exact Kd.R_mono UU15.out (fun _ hk => .inl hk)))
     (case aS => exact (below_size (eTx HB.out)))
     (case aL => have := LMc9.out; omega)
     intro cx w16 ho hb hg hat
     (first | have HS0_ := cell_grown hg (hHeld.1) (by first | (rw [add_block]; exact (fun e_ => ((ag.out.1 _ e_.symm).2) rfl)) | (show some (Addr.add _ _).block ≠ _; rw [add_block]; exact (fun e_ => ((ag.out.1 _ e_.symm).2) rfl)) | exact (fun e_ => ((ag.out.1 _ e_.symm).2) rfl)) | have HS0_ := cell_grown hg (cell_unalloc (hHeld.1) (by first | (rw [add_block]; exact Kd.S_lt aq.out _ rfl) | (show (Addr.add _ _).block < _; rw [add_block]; exact Kd.S_lt aq.out _ rfl) | exact Kd.S_lt aq.out _ rfl)) (by first | (rw [add_block]; exact (fun e_ => ((ag.out.1 _ e_.symm).2) rfl)) | (show some (Addr.add _ _).block ≠ _; rw [add_block]; exact (fun e_ => ((ag.out.1 _ e_.symm).2) rfl)) | exact (fun e_ => ((ag.out.1 _ e_.symm).2) rfl)))
     (first | have HS1_ := cell_grown hg (hHeld.2.1) (by first | (rw [add_block]; exact (fun e_ => ((ag.out.1 _ e_.symm).2) rfl)) | (show some (Addr.add _ _).block ≠ _; rw [add_block]; exact (fun e_ => ((ag.out.1 _ e_.symm).2) rfl)) | exact (fun e_ => ((ag.out.1 _ e_.symm).2) rfl)) | have HS1_ := cell_grown hg (cell_unalloc (hHeld.2.1) (by first | (rw [add_block]; exact Kd.S_lt aq.out _ rfl) | (show (Addr.add _ _).block < _; rw [add_block]; exact Kd.S_lt aq.out _ rfl) | exact Kd.S_lt aq.out _ rfl)) (by first | (rw [add_block]; exact (fun e_ => ((ag.out.1 _ e_.symm).2) rfl)) | (show some (Addr.add _ _).block ≠ _; rw [add_block]; exact (fun e_ => ((ag.out.1 _ e_.symm).2) rfl)) | exact (fun e_ => ((ag.out.1 _ e_.symm).2) rfl)))
     rw [← Ny396.out] at ho
     replace HB := am (hb)
     replace HH15 := am (Kd.H_grown (Kd.H_widen (by repeat (first | exact HH15.out | refine Kd.H_alloc ?_ _ | refine Kd.H_drewN ?_ _ | refine Kd.H_drew ?_))) hg (fun k_ e_ => .inl (UU15.out.1 k_ e_)))
     have bw := am (ho)
     clear aq UU15 ag ho hb hg hat
     have p10 : 0 ≤ ((ji6) : Int) := of_decide_eq_true rfA
     have q10 : ((ji6) : Int) < ((ac.length : Int) : Int) := of_decide_eq_true rfA
     replace p10 := eq_true p10
     replace q10 := eq_true q10
     obtain ⟨b8, b9, bP⟩ := Kd.R_slice bw.out
     (first | subst bP | (injection bP with f1_ f2_ f3_; have f4_ := f1_.symm; have f5_ := f3_.symm; clear f1_ f2_ f3_; subst f4_; subst f5_))
     obtain ⟨_, _, hraw17, _, _, hcc17, _⟩ := Kd.H_raw HH15.out (of_decide_eq_true rfA) (by have h_ : ((ji6) : Int) < ((ac.length : Int) : Int) := of_decide_eq_true rfA; first | exact h_ | (have e_ := (HN15.out); omega) | simpa using h_)
     obtain ⟨_, hfr17⟩ := Kd.H_at HH15.out (of_decide_eq_true rfA) (by have h_ : ((ji6) : Int) < ((ac.length : Int) : Int) := of_decide_eq_true rfA; first | exact h_ | (have e_ := (HN15.out); omega) | simpa using h_)
     have bE := hcc17 1 _ rfl
     have bF := hfr17 1
     (try rw [show (k63).sz = 2 from rfl] at bE)
     (try rw [show (k63).sz = 2 from rfl] at bF)
     have HP17 := Kd.S_seg0 HH15.out (of_decide_eq_true rfA) (by have h_ : ((ji6) : Int) < ((ac.length : Int) : Int) := of_decide_eq_true rfA; first | exact h_ | (have e_ := (HN15.out); omega) | simpa using h_) (seg := [.slice b8 bi.length b9]) (j := 1) (show 2 ≤ 2 from by decide) (x' := (⟨(rd_T63 ac (ji6)).f0, bi⟩ : S63)) (k63_mkM _ _ _ (⟨(rd_T63 ac (ji6)).f0, bi⟩ : S63) bw.out) (fun _ hk => hk)
     clear hcc17 hfr17
     have HS17 := HP17.1
     rw [← Ny399.out] at HS17
     have HQ17 := Aside0.mk HS17
     obtain ⟨_, hgg17⟩ := Kd.R_typed hraw17 go15 rfl
     have GG17_ := Aside0.mk hgg17
     clear HP17 HS17 hgg17
     refine hK.out _ _ ⟨HS0_, HS1_, ((HB.out.cell (World.block_lt_of_cell? w _ hw395_0)).trans hw395_0), ((HB.out.cell (World.block_lt_of_cell? w _ hw395_1)).trans hw395_1)⟩ (fun hHeld => ?_)
     clear hK K
     refine mN 53 ?_
     refine pT 14 54 (bA 17 32767) HT_.out ?_
     refine pT 15 55 (bA 17 65535) HT_.out ?_
     refine last_ (i := 16) (N := none) (bA 17 131071) rfl rfl (one_of HT_.out rfK) (by decide) (fun K hK => ?_)
     refine skip_ (w1 := ?_) (by rfl) rfl ?_ ?_
     rotate_left
     ·go_simp
      rfl
     refine hK.out _ _ ?_
     clear hK K
     refine done_ (done_of HT_.out rfK) ?_
     try go_wp2
     go_roundg k1
     case measure => have := HK1.out; omega
     case rel => exact ⟨(bK), (wrap64 (aa + 1)), rfG, H', ⟨by have := HK1.out; omega⟩, ⟨by (with_reducible repeat (first | apply Kd.S_alloc | apply Kd.S_drewN | apply Kd.S_drew)); exact HQ17.out⟩, ⟨eTx HB.out⟩⟩
    ·have b6 := beq_eq_false_iff_ne.mpr c3
     have b7 := bne_iff_ne.mpr c3
     replace H := ifN H; obtain ⟨c20, H⟩ := H
     have cl := decide_eq_true c20
     clear c20
     obtain ⟨ak, bj⟩ : ∃ j_ : Int, (wrap64 (aa - 1)) = j_ := ⟨_, rfl⟩
     replace H : (if 0 ≤ (ak) then (if (ak) < (l0.length : Int) then (if ((rd_T55 l0 aa).f0).toList = ((rd_T55 l0 (ak)).f0).toList then (if 0 ≤ (wrap64 ((ad.length : Int) - 1)) then (if (wrap64 ((ad.length : Int) - 1)) < (ad.length : Int) then (if ((rd_T63 ad (wrap64 ((ad.length : Int) - 1))).f1).length < 8796093022208 then (graftwoodref16_Of.l0 k1 l0 (ad.set ((wrap64 ((ad.length : Int) - 1)) : Int).toNat (⟨(rd_T63 ad (wrap64 ((ad.length : Int) - 1))).f0, (((rd_T63 ad (wrap64 ((ad.length : Int) - 1))).f1) ++ [(rd_T55 l0 aa).f1])⟩ : S63)) (wrap64 (aa + 1))) else (none)) else (none)) else (none)) else (if ad.length < 3518437208883 then ((some (ad ++ [(⟨(rd_T55 l0 aa).f0, ([] : List ByteArray)⟩ : S63)] : List (S63))).bind fun ab => (if 0 ≤ (wrap64 ((ab.length : Int) - 1)) then (if (wrap64 ((ab.length : Int) - 1)) < (ab.length : Int) then (if ((rd_T63 ab (wrap64 ((ab.length : Int) - 1))).f1).length < 8796093022208 then (graftwoodref16_Of.l0 k1 l0 (ab.set ((wrap64 ((ab.length : Int) - 1)) : Int).toNat (⟨(rd_T63 ab (wrap64 ((ab.length : Int) - 1))).f0, (((rd_T63 ab (wrap64 ((ab.length : Int) - 1))).f1) ++ [(rd_T55 l0 aa).f1])⟩ : S63)) (wrap64 (aa + 1))) else (none)) else (none)) else (none))) else (none))) else (none)) else (none)) = some r := by first | (rw [bj] at H; exact H) | (simp only [bj] at H ⊢; exact H)
     have b_ : (IntKind.i64.wrap (aa - 1)) = ak := (i64_w _).trans bj
     replace H := ifN H; obtain ⟨c22, H⟩ := H
     have cm := decide_eq_true c22
     clear c22
     replace H := ifN H; obtain ⟨c23, H⟩ := H
     have cn := decide_eq_true c23
     clear c23
     replace H := ifP H; rcases H with ⟨c24, H⟩ | ⟨c24, H⟩
     ·have bQ := beq_iff_eq.mpr c24
      have bR := bne_eq_false_iff_eq.mpr c24
      clear c24
      obtain ⟨ae, bk⟩ : ∃ j_ : Int, (wrap64 ((ad.length : Int) - 1)) = j_ := ⟨_, rfl⟩
      replace H : (if 0 ≤ (ae) then (if (ae) < (ad.length : Int) then (if ((rd_T63 ad (ae)).f1).length < 8796093022208 then (graftwoodref16_Of.l0 k1 l0 (ad.set ((ae) : Int).toNat (⟨(rd_T63 ad (ae)).f0, (((rd_T63 ad (ae)).f1) ++ [(rd_T55 l0 aa).f1])⟩ : S63)) (wrap64 (aa + 1))) else (none)) else (none)) else (none)) = some r := by first | (rw [bk] at H; exact H) | (simp only [bk] at H ⊢; exact H)
      have ca : (IntKind.i64.wrap ((ad.length : Int) - 1)) = ae := (i64_w _).trans bk
      replace H := ifN H; obtain ⟨c26, H⟩ := H
      have co := decide_eq_true c26
      clear c26
      replace H := ifN H; obtain ⟨c27, H⟩ := H
      have cp := decide_eq_true c27
      clear c27
      replace H := ifN H; obtain ⟨c28, H⟩ := H
      have LMc28 := Aside0.mk c28
      clear c28
      obtain ⟨bl, a2⟩ : ∃ y_ : List ByteArray, y_ = (((rd_T63 ad (ae)).f1) ++ [(rd_T55 l0 aa).f1]) := ⟨_, rfl⟩
      replace H : (graftwoodref16_Of.l0 k1 l0 (ad.set ((ae) : Int).toNat (⟨(rd_T63 ad (ae)).f0, bl⟩ : S63)) (wrap64 (aa + 1))) = some r := by first | (rw [a2]; with_reducible exact H) | (have H2_ := (Option.bind_some _ _).symm.trans H; rw [a2]; with_reducible exact H2_) | (have H2_ := (Option.bind_some _ _).symm.trans H; with_reducible exact H2_) | with_reducible exact H | (rw [a2]; exact H) | exact H
      have Ny404 := Aside0.mk a2
      clear a2
      obtain ⟨bS, a3⟩ : ∃ y_ : List (S63), y_ = (ad.set ((ae) : Int).toNat (⟨(rd_T63 ad (ae)).f0, bl⟩ : S63)) := ⟨_, rfl⟩
      replace H : (graftwoodref16_Of.l0 k1 l0 bS (wrap64 (aa + 1))) = some r := by first | (rw [a3]; with_reducible exact H) | (have H2_ := (Option.bind_some _ _).symm.trans H; rw [a3]; with_reducible exact H2_) | (have H2_ := (Option.bind_some _ _).symm.trans H; with_reducible exact H2_) | with_reducible exact H | (rw [a3]; exact H) | exact H
      have Ny407 := Aside0.mk a3
      clear a3
      have H' := Aside0.mk H
      clear H
      try go_wp2
      replace aj := am (Kd.S_drew aj.out)
      replace HB := am (below_drew1 HB.out)
      have p400 : 0 ≤ (aa : Int) := of_decide_eq_true rfA
      have q400 : aa < (l0.length : Int) := of_decide_eq_true rfA
      obtain ⟨ad400, e400, al, an⟩ := at_T55 HR0.out aa p400 q400
      have hw400_1 := an
      have hw400_0 := al
      cases e400
      replace al := (HB.out.cell (World.block_lt_of_cell? w _ al)).trans al
      replace an := (HB.out.cell (World.block_lt_of_cell? w _ an)).trans an
      replace p400 := eq_true p400
      replace q400 := eq_true q400
      have p401 : 0 ≤ ((ak) : Int) := of_decide_eq_true rfA
      have q401 : (ak) < (l0.length : Int) := of_decide_eq_true rfA
      obtain ⟨ad401, e401, ao, ap⟩ := at_T55 HR0.out (ak) p401 q401
      have hw401_1 := ap
      have hw401_0 := ao
      obtain rfl : ad400 = ad401 := (by injection e401)
      replace ao := (HB.out.cell (World.block_lt_of_cell? w _ ao)).trans ao
      replace ap := (HB.out.cell (World.block_lt_of_cell? w _ ap)).trans ap
      replace p401 := eq_true p401
      replace q401 := eq_true q401
      refine start_ (n := 16) (S := fun w' => w'.cell? (ad400.add ((aa).toNat * 2)) = some (.string ((rd_T55 l0 aa).f0)) ∧ w'.cell? ⟨(ad400.add ((aa).toNat * 2)).block, (ad400.add ((aa).toNat * 2)).off + 1, none⟩ = some (.string ((rd_T55 l0 aa).f1)) ∧ w'.cell? (ad400.add (((ak)).toNat * 2)) = some (.string ((rd_T55 l0 (ak)).f0)) ∧ w'.cell? ⟨(ad400.add (((ak)).toNat * 2)).block, (ad400.add (((ak)).toNat * 2)).off + 1, none⟩ = some (.string ((rd_T55 l0 (ak)).f1))) (ds := []) (bA 16 0) rfK rfl rfK ⟨((HB.out.cell (World.block_lt_of_cell? w _ hw400_0)).trans hw400_0), ((HB.out.cell (World.block_lt_of_cell? w _ hw400_1)).trans hw400_1), ((HB.out.cell (World.block_lt_of_cell? w _ hw401_0)).trans hw401_0), ((HB.out.cell (World.block_lt_of_cell? w _ hw401_1)).trans hw401_1)⟩ (fun hHeld => ?_); refine with_tabW graftwoodref16_Of.tab5 graftwoodref16_Of.bits5 (fun HT_ HW_ => ?_)
      generalize wr.drew = w30 at aj HB al an ao ap hHeld ⊢
      refine pT 0 12 (bA 16 1) HT_.out ?_
      refine pT 1 13 (bA 16 3) HT_.out ?_
      refine pT 2 14 (bA 16 7) HT_.out ?_
      refine pT 3 15 (bA 16 15) HT_.out ?_
      refine pT 4 16 (bA 16 31) HT_.out ?_
      refine pT 5 17 (bA 16 63) HT_.out ?_
      refine pT 6 18 (bA 16 127) HT_.out ?_
      refine pT 8 20 (bA 16 383) HT_.out ?_
      refine pT 9 21 (bA 16 895) HT_.out ?_
      refine pT 10 22 (bA 16 1919) HT_.out ?_
      refine pT 11 23 (bA 16 3967) HT_.out ?_
      refine pT 12 24 (bA 16 8063) HT_.out ?_
      refine tT 7 19 (bA 16 8191) HT_.out HW_.out hHeld ?_ (hy := by rintro w' ⟨s0, s1, s2, s3⟩; go_simp; with_reducible rfl)
      refine tT 13 25 (bA 16 16383) HT_.out HW_.out hHeld ?_ (hy := by rintro w' ⟨s0, s1, s2, s3⟩; go_simp; with_reducible rfl)
      refine pT 14 26 (bA 16 32767) HT_.out ?_
      refine pT 15 27 (bA 16 65535) HT_.out ?_
      refine done_ (done_of HT_.out rfK) ?_
      obtain ⟨cy, cz, cb⟩ := Kd.S_slice aj.out
      subst cb
      try go_wp2
      replace aj := am (Kd.S_drew aj.out)
      replace HB := am (below_drew1 HB.out)
      have p402 : 0 ≤ ((ae) : Int) := of_decide_eq_true rfA
      have q402 : (ae) < (ad.length : Int) := of_decide_eq_true rfA
      obtain ⟨ad402, a_, bb, e402, aU, aA, hl402_1, hi402_1⟩ := at_T63 (Kd.S_reads' aj.out).2.2 (ae) p402 q402
      cases e402
      obtain ⟨ce402, hce402, hMe402, hcc402⟩ := Kd.S_get aj.out z63 (ae) p402 (by first | exact q402 | exact of_decide_eq_true rfA | (have e_ := (Kd.S_reads' aj.out).1; omega))
      obtain ⟨ve402_1, rfl, ge402_1⟩ := k63_openM hMe402
      have aC := hcc402 1 _ rfl
      rw [add_field _ _ 1 (by omega)] at aC
      replace aC := Option.some.inj (aC.symm.trans aA)
      rw [aC] at ge402_1
      have ah := am (show Kd.R Kd.string 9 _ _ _ _ ((rd_T63 ad (ae)).f1) from ge402_1)
      clear aC ge402_1
      have bg := Aside0.mk aA
      clear hcc402 hce402
      have bs := Aside0.mk hi402_1
      have b3 := Aside0.mk hl402_1
      clear hi402_1 hl402_1
      replace p402 := eq_true p402
      replace q402 := eq_true q402
      have p403 : 0 ≤ (aa : Int) := of_decide_eq_true rfA
      have q403 : aa < (l0.length : Int) := of_decide_eq_true rfA
      obtain ⟨ad403, e403, aD, aE⟩ := at_T55 HR0.out aa p403 q403
      have hw403_1 := aE
      have hw403_0 := aD
      obtain rfl : ad400 = ad403 := (by injection e403)
      replace aD := (HB.out.cell (World.block_lt_of_cell? w _ aD)).trans aD
      replace aE := (HB.out.cell (World.block_lt_of_cell? w _ aE)).trans aE
      replace p403 := eq_true p403
      replace q403 := eq_true q403
      obtain ⟨go33, cA, bU, bV, gl33, cl33, HG33⟩ := Kd.S_form aj.out (by have h_ : ((ae) : Int) < ((ad.length : Int) : Int) := of_decide_eq_true rfA; have h2_ : 0 ≤ ((ae) : Int) := (of_decide_eq_true rfA); omega)
      (first | cases bU | (injection bU with ea_ en_ ec_; (first | subst ea_ | (injection ea_ with ea_; subst ea_)); subst ec_; clear en_))
      have GB33 := Aside0.mk bV
      have GG33 := Aside0.mk HG33
      clear bV gl33 HG33
      (first | simp only [add_plain] at aU | skip)
      (first | simp only [add_plain] at aA | skip)
      obtain ⟨oki33, ce33, hcl33, hM33, hcc33, _, _, hH33⟩ := Kd.S_elem aj.out z63 ((ae) : Int) (of_decide_eq_true rfA) (by have h_ : ((ae) : Int) < ((ad.length : Int) : Int) := of_decide_eq_true rfA; first | exact h_ | (have e_ := (Kd.S_reads' aj.out).1; omega) | simpa using h_)
      obtain ⟨ve33_1, rfl, ge33_1⟩ := k63_openM hM33
      have bt := hcc33 1 _ rfl
      have hX33 := bg.out
      (try simp only [add_plain] at hX33)
      (try simp only [Nat.add_zero] at bt)
      replace bt := Option.some.inj (bt.symm.trans hX33)
      subst bt
      clear hX33 hcc33 hcl33
      have UU33 := am (show Kd.R Kd.string 9 _ w.heap.size oki33 (.slice a_ ((rd_T63 ad (ae)).f1).length bb) ((rd_T63 ad (ae)).f1) from ge33_1)
      have HH33 := Aside0.mk hH33
      have HN33 := am (Kd.S_reads' aj.out).1
      clear hH33 ge33_1
      refine start_ (n := 17) (S := fun w' => w'.cell? ⟨go33, ((ae)).toNat * 2, none⟩ = some (.string ((rd_T63 ad (ae)).f0)) ∧ w'.cell? ⟨go33, ((ae)).toNat * 2 + 1, none⟩ = some (.slice a_ ((rd_T63 ad (ae)).f1).length bb) ∧ w'.cell? (ad400.add ((aa).toNat * 2)) = some (.string ((rd_T55 l0 aa).f0)) ∧ w'.cell? ⟨(ad400.add ((aa).toNat * 2)).block, (ad400.add ((aa).toNat * 2)).off + 1, none⟩ = some (.string ((rd_T55 l0 aa).f1))) (ds := [16]) (bA 17 0) rfK rfl rfK ⟨aU, aA, ((HB.out.cell (World.block_lt_of_cell? w _ hw403_0)).trans hw403_0), ((HB.out.cell (World.block_lt_of_cell? w _ hw403_1)).trans hw403_1)⟩ (fun hHeld => ?_); refine with_tabW graftwoodref16_Of.tab8 graftwoodref16_Of.bits8 (fun HT_ HW_ => ?_)
      generalize w30.drew = w32 at aj HB GG33 HH33 ah bs bg UU33 aU aA aD aE hHeld ⊢
      refine pT 0 40 (bA 17 1) HT_.out ?_
      refine pT 1 41 (bA 17 3) HT_.out ?_
      refine pT 2 42 (bA 17 7) HT_.out ?_
      refine pT 3 43 (bA 17 15) HT_.out ?_
      refine pT 4 44 (bA 17 31) HT_.out ?_
      refine pT 5 45 (bA 17 63) HT_.out ?_
      refine pT 7 47 (bA 17 191) HT_.out ?_
      refine pT 8 48 (bA 17 447) HT_.out ?_
      refine pT 9 49 (bA 17 959) HT_.out ?_
      refine pT 10 50 (bA 17 1983) HT_.out ?_
      refine tT 6 46 (bA 17 2047) HT_.out HW_.out hHeld ?_ (hy := by rintro w' ⟨s0, s1, s2, s3⟩; go_simp; with_reducible rfl)
      refine tT 11 51 (bA 17 4095) HT_.out HW_.out hHeld ?_ (hy := by rintro w' ⟨s0, s1, s2, s3⟩; go_simp; with_reducible rfl)
      refine oT 12 (bA 17 8191) HT_.out fun K hK => ?_
      refine value_ (w1 := ?_) (v := ?_) (by rfl) rfl ?_ ?_
      rotate_left 2
      ·go_simp
       constructor
       ·rfl
       ·rfl
      refine hK.out _ _ ⟨(World.cell?_alloc_lt _ _ _ (World.block_lt_of_cell? _ _ (hHeld.1))).trans (hHeld.1), (World.cell?_alloc_lt _ _ _ (World.block_lt_of_cell? _ _ (hHeld.2.1))).trans (hHeld.2.1), (World.cell?_alloc_lt _ _ _ (World.block_lt_of_cell? _ _ (((HB.out.cell (World.block_lt_of_cell? w _ hw403_0)).trans hw403_0)))).trans (((HB.out.cell (World.block_lt_of_cell? w _ hw403_0)).trans hw403_0)), (World.cell?_alloc_lt _ _ _ (World.block_lt_of_cell? _ _ (((HB.out.cell (World.block_lt_of_cell? w _ hw403_1)).trans hw403_1)))).trans (((HB.out.cell (World.block_lt_of_cell? w _ hw403_1)).trans hw403_1))⟩ (fun hHeld => ?_)
      clear hK K
      refine mN 52 ?_
      refine oT 13 (bA 17 16383) HT_.out fun K hK => ?_
      refine Kd.R_append_step Kd.string (w0 := w) w.heap.size (by rfl) (.tmp 46) (.tmp 52) 61 9 (.string ⟨#[]⟩) 16 rfl Tryz.underlying61 info9 rfl (by decide) (by omega) (.slice a_ ((rd_T63 ad (ae)).f1).length bb) ((rd_T63 ad (ae)).f1) ((rd_T55 l0 aa).f1) [.string ((rd_T55 l0 aa).f1)] (fun k_ => oki33 k_ ∨ ((fun _ => True)) k_ ∧ w32.heap.size ≤ k_) (fun _ => False) rfl rfl ?aP (fun _ hk => hk.elim) ?aF ?aO ?aB ?aS ?aL ?_
      (case aP => exact rfl)
      (case aB => exact (eTx HB.out))
      (case aF => exact (fun k_ hk => .inr ⟨trivial, hk⟩))
      (case aO => exact (by (with_reducible repeat (first | apply Kd.R_alloc | apply Kd.R_drewN | apply Kd.R_drew)); exact Kd.R_mono UU33.out (fun _ hk => .inl hk)))
      (case aS => exact (below_size (eTx HB.out)))
      (case aL => have := LMc28.out; omega)
      intro cB w34 ho hb hg hat
      (first | have HS0_ := cell_grown hg (hHeld.1) (by first | (rw [add_block]; exact (fun e_ => ((ah.out.1 _ e_.symm).2) rfl)) | (show some (Addr.add _ _).block ≠ _; rw [add_block]; exact (fun e_ => ((ah.out.1 _ e_.symm).2) rfl)) | exact (fun e_ => ((ah.out.1 _ e_.symm).2) rfl)) | have HS0_ := cell_grown hg (cell_unalloc (hHeld.1) (by first | (rw [add_block]; exact Kd.S_lt aj.out _ rfl) | (show (Addr.add _ _).block < _; rw [add_block]; exact Kd.S_lt aj.out _ rfl) | exact Kd.S_lt aj.out _ rfl)) (by first | (rw [add_block]; exact (fun e_ => ((ah.out.1 _ e_.symm).2) rfl)) | (show some (Addr.add _ _).block ≠ _; rw [add_block]; exact (fun e_ => ((ah.out.1 _ e_.symm).2) rfl)) | exact (fun e_ => ((ah.out.1 _ e_.symm).2) rfl)))
      (first | have HS1_ := cell_grown hg (hHeld.2.1) (by first | (rw [add_block]; exact (fun e_ => ((ah.out.1 _ e_.symm).2) rfl)) | (show some (Addr.add _ _).block ≠ _; rw [add_block]; exact (fun e_ => ((ah.out.1 _ e_.symm).2) rfl)) | exact (fun e_ => ((ah.out.1 _ e_.symm).2) rfl)) | have HS1_ := cell_grown hg (cell_unalloc (hHeld.2.1) (by first | (rw [add_block]; exact Kd.S_lt aj.out _ rfl) | (show (Addr.add _ _).block < _; rw [add_block]; exact Kd.S_lt aj.out _ rfl) | exact Kd.S_lt aj.out _ rfl)) (by first | (rw [add_block]; exact (fun e_ => ((ah.out.1 _ e_.symm).2) rfl)) | (show some (Addr.add _ _).block ≠ _; rw [add_block]; exact (fun e_ => ((ah.out.1 _ e_.symm).2) rfl)) | exact (fun e_ => ((ah.out.1 _ e_.symm).2) rfl)))
      rw [← Ny404.out] at ho
      replace HB := am (hb)
      replace HH33 := am (Kd.H_grown (Kd.H_widen (by repeat (first | exact HH33.out | refine Kd.H_alloc ?_ _ | refine Kd.H_drewN ?_ _ | refine Kd.H_drew ?_))) hg (fun k_ e_ => .inl (UU33.out.1 k_ e_)))
      have bx := am (ho)
      clear aj UU33 ah ho hb hg hat
      have p29 : 0 ≤ ((ae) : Int) := of_decide_eq_true rfA
      have q29 : ((ae) : Int) < ((ad.length : Int) : Int) := of_decide_eq_true rfA
      replace p29 := eq_true p29
      replace q29 := eq_true q29
      obtain ⟨cc, cd, bW⟩ := Kd.R_slice bx.out
      (first | subst bW | (injection bW with f1_ f2_ f3_; have f4_ := f1_.symm; have f5_ := f3_.symm; clear f1_ f2_ f3_; subst f4_; subst f5_))
      obtain ⟨_, _, hraw35, _, _, hcc35, _⟩ := Kd.H_raw HH33.out (of_decide_eq_true rfA) (by have h_ : ((ae) : Int) < ((ad.length : Int) : Int) := of_decide_eq_true rfA; first | exact h_ | (have e_ := (HN33.out); omega) | simpa using h_)
      obtain ⟨_, hfr35⟩ := Kd.H_at HH33.out (of_decide_eq_true rfA) (by have h_ : ((ae) : Int) < ((ad.length : Int) : Int) := of_decide_eq_true rfA; first | exact h_ | (have e_ := (HN33.out); omega) | simpa using h_)
      have bG := hcc35 1 _ rfl
      have bH := hfr35 1
      (try rw [show (k63).sz = 2 from rfl] at bG)
      (try rw [show (k63).sz = 2 from rfl] at bH)
      have HP35 := Kd.S_seg0 HH33.out (of_decide_eq_true rfA) (by have h_ : ((ae) : Int) < ((ad.length : Int) : Int) := of_decide_eq_true rfA; first | exact h_ | (have e_ := (HN33.out); omega) | simpa using h_) (seg := [.slice cc bl.length cd]) (j := 1) (show 2 ≤ 2 from by decide) (x' := (⟨(rd_T63 ad (ae)).f0, bl⟩ : S63)) (k63_mkM _ _ _ (⟨(rd_T63 ad (ae)).f0, bl⟩ : S63) bx.out) (fun _ hk => hk)
      clear hcc35 hfr35
      have HS35 := HP35.1
      rw [← Ny407.out] at HS35
      have HQ35 := Aside0.mk HS35
      obtain ⟨_, hgg35⟩ := Kd.R_typed hraw35 go33 rfl
      have GG35_ := Aside0.mk hgg35
      clear HP35 HS35 hgg35
      refine hK.out _ _ ⟨HS0_, HS1_, ((HB.out.cell (World.block_lt_of_cell? w _ hw403_0)).trans hw403_0), ((HB.out.cell (World.block_lt_of_cell? w _ hw403_1)).trans hw403_1)⟩ (fun hHeld => ?_)
      clear hK K
      refine mN 53 ?_
      refine pT 14 54 (bA 17 32767) HT_.out ?_
      refine pT 15 55 (bA 17 65535) HT_.out ?_
      refine last_ (i := 16) (N := none) (bA 17 131071) rfl rfl (one_of HT_.out rfK) (by decide) (fun K hK => ?_)
      refine skip_ (w1 := ?_) (by rfl) rfl ?_ ?_
      rotate_left
      ·go_simp
       rfl
      refine hK.out _ _ ?_
      clear hK K
      refine done_ (done_of HT_.out rfK) ?_
      try go_wp2
      go_roundg k1
      case measure => have := HK1.out; omega
      case rel => exact ⟨(bS), (wrap64 (aa + 1)), rfG, H', ⟨by have := HK1.out; omega⟩, ⟨by (with_reducible repeat (first | apply Kd.S_alloc | apply Kd.S_drewN | apply Kd.S_drew)); exact HQ35.out⟩, ⟨eTx HB.out⟩⟩
     ·have bQ := beq_eq_false_iff_ne.mpr c24
      have bR := bne_iff_ne.mpr c24
      replace H := ifN H; obtain ⟨c38, H⟩ := H
      have LMc38 := Aside0.mk c38
      clear c38
      obtain ⟨ab, a4⟩ : ∃ y_ : List (S63), y_ = (ad ++ [(⟨(rd_T55 l0 aa).f0, ([] : List ByteArray)⟩ : S63)]) := ⟨_, rfl⟩
      replace H : (if 0 ≤ (wrap64 ((ab.length : Int) - 1)) then (if (wrap64 ((ab.length : Int) - 1)) < (ab.length : Int) then (if ((rd_T63 ab (wrap64 ((ab.length : Int) - 1))).f1).length < 8796093022208 then (graftwoodref16_Of.l0 k1 l0 (ab.set ((wrap64 ((ab.length : Int) - 1)) : Int).toNat (⟨(rd_T63 ab (wrap64 ((ab.length : Int) - 1))).f0, (((rd_T63 ab (wrap64 ((ab.length : Int) - 1))).f1) ++ [(rd_T55 l0 aa).f1])⟩ : S63)) (wrap64 (aa + 1))) else (none)) else (none)) else (none)) = some r := by first | (rw [a4]; with_reducible exact H) | (have H2_ := (Option.bind_some _ _).symm.trans H; rw [a4]; with_reducible exact H2_) | (have H2_ := (Option.bind_some _ _).symm.trans H; with_reducible exact H2_) | with_reducible exact H | (rw [a4]; exact H) | exact H
      have Ny409 := Aside0.mk a4
      clear a4
      obtain ⟨af, bm⟩ : ∃ j_ : Int, (wrap64 ((ab.length : Int) - 1)) = j_ := ⟨_, rfl⟩
      replace H : (if 0 ≤ (af) then (if (af) < (ab.length : Int) then (if ((rd_T63 ab (af)).f1).length < 8796093022208 then (graftwoodref16_Of.l0 k1 l0 (ab.set ((af) : Int).toNat (⟨(rd_T63 ab (af)).f0, (((rd_T63 ab (af)).f1) ++ [(rd_T55 l0 aa).f1])⟩ : S63)) (wrap64 (aa + 1))) else (none)) else (none)) else (none)) = some r := by first | (rw [bm] at H; exact H) | (simp only [bm] at H ⊢; exact H)
      have ce : (IntKind.i64.wrap ((ab.length : Int) - 1)) = af := (i64_w _).trans bm
      replace H := ifN H; obtain ⟨c40, H⟩ := H
      have cq := decide_eq_true c40
      clear c40
      replace H := ifN H; obtain ⟨c41, H⟩ := H
      have cr := decide_eq_true c41
      clear c41
      replace H := ifN H; obtain ⟨c42, H⟩ := H
      have LMc42 := Aside0.mk c42
      clear c42
      obtain ⟨bo, a5⟩ : ∃ y_ : List ByteArray, y_ = (((rd_T63 ab (af)).f1) ++ [(rd_T55 l0 aa).f1]) := ⟨_, rfl⟩
      replace H : (graftwoodref16_Of.l0 k1 l0 (ab.set ((af) : Int).toNat (⟨(rd_T63 ab (af)).f0, bo⟩ : S63)) (wrap64 (aa + 1))) = some r := by first | (rw [a5]; with_reducible exact H) | (have H2_ := (Option.bind_some _ _).symm.trans H; rw [a5]; with_reducible exact H2_) | (have H2_ := (Option.bind_some _ _).symm.trans H; with_reducible exact H2_) | with_reducible exact H | (rw [a5]; exact H) | exact H
      have Ny414 := Aside0.mk a5
      clear a5
      obtain ⟨bX, a6⟩ : ∃ y_ : List (S63), y_ = (ab.set ((af) : Int).toNat (⟨(rd_T63 ab (af)).f0, bo⟩ : S63)) := ⟨_, rfl⟩
      replace H : (graftwoodref16_Of.l0 k1 l0 bX (wrap64 (aa + 1))) = some r := by first | (rw [a6]; with_reducible exact H) | (have H2_ := (Option.bind_some _ _).symm.trans H; rw [a6]; with_reducible exact H2_) | (have H2_ := (Option.bind_some _ _).symm.trans H; with_reducible exact H2_) | with_reducible exact H | (rw [a6]; exact H) | exact H
      have Ny417 := Aside0.mk a6
      clear a6
      have H' := Aside0.mk H
      clear H
      try go_wp2
      replace aj := am (Kd.S_drew aj.out)
      replace HB := am (below_drew1 HB.out)
      have p400 : 0 ≤ (aa : Int) := of_decide_eq_true rfA
      have q400 : aa < (l0.length : Int) := of_decide_eq_true rfA
      obtain ⟨ad400, e400, al, an⟩ := at_T55 HR0.out aa p400 q400
      have hw400_1 := an
      have hw400_0 := al
      cases e400
      replace al := (HB.out.cell (World.block_lt_of_cell? w _ al)).trans al
      replace an := (HB.out.cell (World.block_lt_of_cell? w _ an)).trans an
      replace p400 := eq_true p400
      replace q400 := eq_true q400
      have p401 : 0 ≤ ((ak) : Int) := of_decide_eq_true rfA
      have q401 : (ak) < (l0.length : Int) := of_decide_eq_true rfA
      obtain ⟨ad401, e401, ao, ap⟩ := at_T55 HR0.out (ak) p401 q401
      have hw401_1 := ap
      have hw401_0 := ao
      obtain rfl : ad400 = ad401 := (by injection e401)
      replace ao := (HB.out.cell (World.block_lt_of_cell? w _ ao)).trans ao
      replace ap := (HB.out.cell (World.block_lt_of_cell? w _ ap)).trans ap
      replace p401 := eq_true p401
      replace q401 := eq_true q401
      refine start_ (n := 16) (S := fun w' => w'.cell? (ad400.add ((aa).toNat * 2)) = some (.string ((rd_T55 l0 aa).f0)) ∧ w'.cell? ⟨(ad400.add ((aa).toNat * 2)).block, (ad400.add ((aa).toNat * 2)).off + 1, none⟩ = some (.string ((rd_T55 l0 aa).f1)) ∧ w'.cell? (ad400.add (((ak)).toNat * 2)) = some (.string ((rd_T55 l0 (ak)).f0)) ∧ w'.cell? ⟨(ad400.add (((ak)).toNat * 2)).block, (ad400.add (((ak)).toNat * 2)).off + 1, none⟩ = some (.string ((rd_T55 l0 (ak)).f1))) (ds := []) (bA 16 0) rfK rfl rfK ⟨((HB.out.cell (World.block_lt_of_cell? w _ hw400_0)).trans hw400_0), ((HB.out.cell (World.block_lt_of_cell? w _ hw400_1)).trans hw400_1), ((HB.out.cell (World.block_lt_of_cell? w _ hw401_0)).trans hw401_0), ((HB.out.cell (World.block_lt_of_cell? w _ hw401_1)).trans hw401_1)⟩ (fun hHeld => ?_); refine with_tabW graftwoodref16_Of.tab5 graftwoodref16_Of.bits5 (fun HT_ HW_ => ?_)
      generalize wr.drew = w44 at aj HB al an ao ap hHeld ⊢
      refine pT 0 12 (bA 16 1) HT_.out ?_
      refine pT 1 13 (bA 16 3) HT_.out ?_
      refine pT 2 14 (bA 16 7) HT_.out ?_
      refine pT 3 15 (bA 16 15) HT_.out ?_
      refine pT 4 16 (bA 16 31) HT_.out ?_
      refine pT 5 17 (bA 16 63) HT_.out ?_
      refine pT 6 18 (bA 16 127) HT_.out ?_
      refine pT 8 20 (bA 16 383) HT_.out ?_
      refine pT 9 21 (bA 16 895) HT_.out ?_
      refine pT 10 22 (bA 16 1919) HT_.out ?_
      refine pT 11 23 (bA 16 3967) HT_.out ?_
      refine pT 12 24 (bA 16 8063) HT_.out ?_
      refine tT 7 19 (bA 16 8191) HT_.out HW_.out hHeld ?_ (hy := by rintro w' ⟨s0, s1, s2, s3⟩; go_simp; with_reducible rfl)
      refine tT 13 25 (bA 16 16383) HT_.out HW_.out hHeld ?_ (hy := by rintro w' ⟨s0, s1, s2, s3⟩; go_simp; with_reducible rfl)
      refine pT 14 26 (bA 16 32767) HT_.out ?_
      refine pT 15 27 (bA 16 65535) HT_.out ?_
      refine done_ (done_of HT_.out rfK) ?_
      have p408 : 0 ≤ (aa : Int) := of_decide_eq_true rfA
      have q408 : aa < (l0.length : Int) := of_decide_eq_true rfA
      obtain ⟨ad408, e408, aV, aW⟩ := at_T55 HR0.out aa p408 q408
      obtain rfl : ad400 = ad408 := (by injection e408)
      replace aV := (HB.out.cell (World.block_lt_of_cell? w _ aV)).trans aV
      replace aW := (HB.out.cell (World.block_lt_of_cell? w _ aW)).trans aW
      replace p408 := eq_true p408
      replace q408 := eq_true q408
      try go_wp2_with (first | ((with_reducible refine gate_builtin (b := .append) (xs := #[.tmp 28, .tmp 35]) rfl ?_); at_builtin; refine Kd.S_append k63 (w0 := w) w.heap.size rfl (.tmp 28) (.tmp 35) 23 63 (.agg #[(.string ⟨#[]⟩), (.slice none 0 0)]) 40 rfl Tryz.underlying23 info63 rfl (by decide) (by omega) u3 ad (⟨(rd_T55 l0 aa).f0, ([] : List ByteArray)⟩ : S63) [.string ((rd_T55 l0 aa).f0), .slice none 0 0] (fun _ => True) (fun _ => False) rfl rfl ?aP (fun k_ hk_ => hk_.elim) ?aF ?aO ?aB ?aS ?aL ?_; (case aP => exact k63_mkM _ _ _ (⟨(rd_T55 l0 aa).f0, ([] : List ByteArray)⟩ : S63) (Kd.R_nil _ _ _ _ _)); (case aB => exact (eTx HB.out)); (case aF => exact (fun _ _ => trivial)); (case aO => exact (by (with_reducible repeat (first | apply Kd.S_alloc | apply Kd.S_drewN | apply Kd.S_drew)); exact Kd.S_mono aj.out (fun k_ hk => ⟨trivial, fun e_ => e_⟩))); (case aS => exact (below_size (eTx HB.out))); (case aL => have := LMc38.out; omega); intro cC w45 ho hb hg hat; rw [← Ny409.out] at ho; replace HB := am (hb); have ar := am (ho); clear aj ho hb hg hat; obtain ⟨cD, cE, cf⟩ := Kd.S_slice ar.out; subst cf))
      replace ar := am (Kd.S_drew ar.out)
      replace HB := am (below_drew1 HB.out)
      have p412 : 0 ≤ ((af) : Int) := of_decide_eq_true rfA
      have q412 : (af) < (ab.length : Int) := of_decide_eq_true rfA
      obtain ⟨ad412, bc, be, e412, aX, aG, hl412_1, hi412_1⟩ := at_T63 (Kd.S_reads' ar.out).2.2 (af) p412 q412
      cases e412
      obtain ⟨ce412, hce412, hMe412, hcc412⟩ := Kd.S_get ar.out z63 (af) p412 (by first | exact q412 | exact of_decide_eq_true rfA | (have e_ := (Kd.S_reads' ar.out).1; omega))
      obtain ⟨ve412_1, rfl, ge412_1⟩ := k63_openM hMe412
      have aH := hcc412 1 _ rfl
      rw [add_field _ _ 1 (by omega)] at aH
      replace aH := Option.some.inj (aH.symm.trans aG)
      rw [aH] at ge412_1
      have ai := am (show Kd.R Kd.string 9 _ _ _ _ ((rd_T63 ab (af)).f1) from ge412_1)
      clear aH ge412_1
      have bh := Aside0.mk aG
      clear hcc412 hce412
      have bu := Aside0.mk hi412_1
      have b4 := Aside0.mk hl412_1
      clear hi412_1 hl412_1
      replace p412 := eq_true p412
      replace q412 := eq_true q412
      have p413 : 0 ≤ (aa : Int) := of_decide_eq_true rfA
      have q413 : aa < (l0.length : Int) := of_decide_eq_true rfA
      obtain ⟨ad413, e413, aI, aJ⟩ := at_T55 HR0.out aa p413 q413
      have hw413_1 := aJ
      have hw413_0 := aI
      obtain rfl : ad400 = ad413 := (by injection e413)
      replace aI := (HB.out.cell (World.block_lt_of_cell? w _ aI)).trans aI
      replace aJ := (HB.out.cell (World.block_lt_of_cell? w _ aJ)).trans aJ
      replace p413 := eq_true p413
      replace q413 := eq_true q413
      obtain ⟨go48, cF, bZ, b0, gl48, cl48, HG48⟩ := Kd.S_form ar.out (by have h_ : ((af) : Int) < ((ab.length : Int) : Int) := of_decide_eq_true rfA; have h2_ : 0 ≤ ((af) : Int) := (of_decide_eq_true rfA); omega)
      (first | cases bZ | (injection bZ with ea_ en_ ec_; (first | subst ea_ | (injection ea_ with ea_; subst ea_)); subst ec_; clear en_))
      have GB48 := Aside0.mk b0
      have GG48 := Aside0.mk HG48
      clear b0 gl48 HG48
      (first | simp only [add_plain] at aX | skip)
      (first | simp only [add_plain] at aG | skip)
      obtain ⟨oki48, ce48, hcl48, hM48, hcc48, _, _, hH48⟩ := Kd.S_elem ar.out z63 ((af) : Int) (of_decide_eq_true rfA) (by have h_ : ((af) : Int) < ((ab.length : Int) : Int) := of_decide_eq_true rfA; first | exact h_ | (have e_ := (Kd.S_reads' ar.out).1; omega) | simpa using h_)
      obtain ⟨ve48_1, rfl, ge48_1⟩ := k63_openM hM48
      have bv := hcc48 1 _ rfl
      have hX48 := bh.out
      (try simp only [add_plain] at hX48)
      (try simp only [Nat.add_zero] at bv)
      replace bv := Option.some.inj (bv.symm.trans hX48)
      subst bv
      clear hX48 hcc48 hcl48
      have UU48 := am (show Kd.R Kd.string 9 _ w.heap.size oki48 (.slice bc ((rd_T63 ab (af)).f1).length be) ((rd_T63 ab (af)).f1) from ge48_1)
      have HH48 := Aside0.mk hH48
      have HN48 := am (Kd.S_reads' ar.out).1
      clear hH48 ge48_1
      refine start_ (n := 17) (S := fun w' => w'.cell? ⟨go48, ((af)).toNat * 2, none⟩ = some (.string ((rd_T63 ab (af)).f0)) ∧ w'.cell? ⟨go48, ((af)).toNat * 2 + 1, none⟩ = some (.slice bc ((rd_T63 ab (af)).f1).length be) ∧ w'.cell? (ad400.add ((aa).toNat * 2)) = some (.string ((rd_T55 l0 aa).f0)) ∧ w'.cell? ⟨(ad400.add ((aa).toNat * 2)).block, (ad400.add ((aa).toNat * 2)).off + 1, none⟩ = some (.string ((rd_T55 l0 aa).f1))) (ds := [16]) (bA 17 0) rfK rfl rfK ⟨aX, aG, ((HB.out.cell (World.block_lt_of_cell? w _ hw413_0)).trans hw413_0), ((HB.out.cell (World.block_lt_of_cell? w _ hw413_1)).trans hw413_1)⟩ (fun hHeld => ?_); refine with_tabW graftwoodref16_Of.tab8 graftwoodref16_Of.bits8 (fun HT_ HW_ => ?_)
      generalize w45.drew = w47 at ar HB GG48 HH48 ai bu bh UU48 aX aG aI aJ hHeld ⊢
      refine pT 0 40 (bA 17 1) HT_.out ?_
      refine pT 1 41 (bA 17 3) HT_.out ?_
      refine pT 2 42 (bA 17 7) HT_.out ?_
      refine pT 3 43 (bA 17 15) HT_.out ?_
      refine pT 4 44 (bA 17 31) HT_.out ?_
      refine pT 5 45 (bA 17 63) HT_.out ?_
      refine pT 7 47 (bA 17 191) HT_.out ?_
      refine pT 8 48 (bA 17 447) HT_.out ?_
      refine pT 9 49 (bA 17 959) HT_.out ?_
      refine pT 10 50 (bA 17 1983) HT_.out ?_
      refine tT 6 46 (bA 17 2047) HT_.out HW_.out hHeld ?_ (hy := by rintro w' ⟨s0, s1, s2, s3⟩; go_simp; with_reducible rfl)
      refine tT 11 51 (bA 17 4095) HT_.out HW_.out hHeld ?_ (hy := by rintro w' ⟨s0, s1, s2, s3⟩; go_simp; with_reducible rfl)
      refine oT 12 (bA 17 8191) HT_.out fun K hK => ?_
      refine value_ (w1 := ?_) (v := ?_) (by rfl) rfl ?_ ?_
      rotate_left 2
      ·go_simp
       constructor
       ·rfl
       ·rfl
      refine hK.out _ _ ⟨(World.cell?_alloc_lt _ _ _ (World.block_lt_of_cell? _ _ (hHeld.1))).trans (hHeld.1), (World.cell?_alloc_lt _ _ _ (World.block_lt_of_cell? _ _ (hHeld.2.1))).trans (hHeld.2.1), (World.cell?_alloc_lt _ _ _ (World.block_lt_of_cell? _ _ (((HB.out.cell (World.block_lt_of_cell? w _ hw413_0)).trans hw413_0)))).trans (((HB.out.cell (World.block_lt_of_cell? w _ hw413_0)).trans hw413_0)), (World.cell?_alloc_lt _ _ _ (World.block_lt_of_cell? _ _ (((HB.out.cell (World.block_lt_of_cell? w _ hw413_1)).trans hw413_1)))).trans (((HB.out.cell (World.block_lt_of_cell? w _ hw413_1)).trans hw413_1))⟩ (fun hHeld => ?_)
      clear hK K
      refine mN 52 ?_
      refine oT 13 (bA 17 16383) HT_.out fun K hK => ?_
      refine Kd.R_append_step Kd.string (w0 := w) w.heap.size (by rfl) (.tmp 46) (.tmp 52) 61 9 (.string ⟨#[]⟩) 16 rfl Tryz.underlying61 info9 rfl (by decide) (by omega) (.slice bc ((rd_T63 ab (af)).f1).length be) ((rd_T63 ab (af)).f1) ((rd_T55 l0 aa).f1) [.string ((rd_T55 l0 aa).f1)] (fun k_ => oki48 k_ ∨ ((fun _ => True)) k_ ∧ w47.heap.size ≤ k_) (fun _ => False) rfl rfl ?aP (fun _ hk => hk.elim) ?aF ?aO ?aB ?aS ?aL ?_
      (case aP => exact rfl)
      (case aB => exact (eTx HB.out))
      (case aF => exact (fun k_ hk => .inr ⟨trivial, hk⟩))
      (case aO => exact (by (with_reducible repeat (first | apply Kd.R_alloc | apply Kd.R_drewN | apply Kd.R_drew)); exact Kd.R_mono UU48.out (fun _ hk => .inl hk)))
      (case aS => exact (below_size (eTx HB.out)))
      (case aL => have := LMc42.out; omega)
      intro cG w49 ho hb hg hat
      (first | have HS0_ := cell_grown hg (hHeld.1) (by first | (rw [add_block]; exact (fun e_ => ((ai.out.1 _ e_.symm).2) rfl)) | (show some (Addr.add _ _).block ≠ _; rw [add_block]; exact (fun e_ => ((ai.out.1 _ e_.symm).2) rfl)) | exact (fun e_ => ((ai.out.1 _ e_.symm).2) rfl)) | have HS0_ := cell_grown hg (cell_unalloc (hHeld.1) (by first | (rw [add_block]; exact Kd.S_lt ar.out _ rfl) | (show (Addr.add _ _).block < _; rw [add_block]; exact Kd.S_lt ar.out _ rfl) | exact Kd.S_lt ar.out _ rfl)) (by first | (rw [add_block]; exact (fun e_ => ((ai.out.1 _ e_.symm).2) rfl)) | (show some (Addr.add _ _).block ≠ _; rw [add_block]; exact (fun e_ => ((ai.out.1 _ e_.symm).2) rfl)) | exact (fun e_ => ((ai.out.1 _ e_.symm).2) rfl)))
      (first | have HS1_ := cell_grown hg (hHeld.2.1) (by first | (rw [add_block]; exact (fun e_ => ((ai.out.1 _ e_.symm).2) rfl)) | (show some (Addr.add _ _).block ≠ _; rw [add_block]; exact (fun e_ => ((ai.out.1 _ e_.symm).2) rfl)) | exact (fun e_ => ((ai.out.1 _ e_.symm).2) rfl)) | have HS1_ := cell_grown hg (cell_unalloc (hHeld.2.1) (by first | (rw [add_block]; exact Kd.S_lt ar.out _ rfl) | (show (Addr.add _ _).block < _; rw [add_block]; exact Kd.S_lt ar.out _ rfl) | exact Kd.S_lt ar.out _ rfl)) (by first | (rw [add_block]; exact (fun e_ => ((ai.out.1 _ e_.symm).2) rfl)) | (show some (Addr.add _ _).block ≠ _; rw [add_block]; exact (fun e_ => ((ai.out.1 _ e_.symm).2) rfl)) | exact (fun e_ => ((ai.out.1 _ e_.symm).2) rfl)))
      rw [← Ny414.out] at ho
      replace HB := am (hb)
      replace HH48 := am (Kd.H_grown (Kd.H_widen (by repeat (first | exact HH48.out | refine Kd.H_alloc ?_ _ | refine Kd.H_drewN ?_ _ | refine Kd.H_drew ?_))) hg (fun k_ e_ => .inl (UU48.out.1 k_ e_)))
      have bz := am (ho)
      clear ar UU48 ai ho hb hg hat
      have p43 : 0 ≤ ((af) : Int) := of_decide_eq_true rfA
      have q43 : ((af) : Int) < ((ab.length : Int) : Int) := of_decide_eq_true rfA
      replace p43 := eq_true p43
      replace q43 := eq_true q43
      obtain ⟨cg, ch, b1⟩ := Kd.R_slice bz.out
      (first | subst b1 | (injection b1 with f1_ f2_ f3_; have f4_ := f1_.symm; have f5_ := f3_.symm; clear f1_ f2_ f3_; subst f4_; subst f5_))
      obtain ⟨_, _, hraw50, _, _, hcc50, _⟩ := Kd.H_raw HH48.out (of_decide_eq_true rfA) (by have h_ : ((af) : Int) < ((ab.length : Int) : Int) := of_decide_eq_true rfA; first | exact h_ | (have e_ := (HN48.out); omega) | simpa using h_)
      obtain ⟨_, hfr50⟩ := Kd.H_at HH48.out (of_decide_eq_true rfA) (by have h_ : ((af) : Int) < ((ab.length : Int) : Int) := of_decide_eq_true rfA; first | exact h_ | (have e_ := (HN48.out); omega) | simpa using h_)
      have bI := hcc50 1 _ rfl
      have bJ := hfr50 1
      (try rw [show (k63).sz = 2 from rfl] at bI)
      (try rw [show (k63).sz = 2 from rfl] at bJ)
      have HP50 := Kd.S_seg0 HH48.out (of_decide_eq_true rfA) (by have h_ : ((af) : Int) < ((ab.length : Int) : Int) := of_decide_eq_true rfA; first | exact h_ | (have e_ := (HN48.out); omega) | simpa using h_) (seg := [.slice cg bo.length ch]) (j := 1) (show 2 ≤ 2 from by decide) (x' := (⟨(rd_T63 ab (af)).f0, bo⟩ : S63)) (k63_mkM _ _ _ (⟨(rd_T63 ab (af)).f0, bo⟩ : S63) bz.out) (fun _ hk => hk)
      clear hcc50 hfr50
      have HS50 := HP50.1
      rw [← Ny417.out] at HS50
      have HQ50 := Aside0.mk HS50
      obtain ⟨_, hgg50⟩ := Kd.R_typed hraw50 go48 rfl
      have GG50_ := Aside0.mk hgg50
      clear HP50 HS50 hgg50
      refine hK.out _ _ ⟨HS0_, HS1_, ((HB.out.cell (World.block_lt_of_cell? w _ hw413_0)).trans hw413_0), ((HB.out.cell (World.block_lt_of_cell? w _ hw413_1)).trans hw413_1)⟩ (fun hHeld => ?_)
      clear hK K
      refine mN 53 ?_
      refine pT 14 54 (bA 17 32767) HT_.out ?_
      refine pT 15 55 (bA 17 65535) HT_.out ?_
      refine last_ (i := 16) (N := none) (bA 17 131071) rfl rfl (one_of HT_.out rfK) (by decide) (fun K hK => ?_)
      refine skip_ (w1 := ?_) (by rfl) rfl ?_ ?_
      rotate_left
      ·go_simp
       rfl
      refine hK.out _ _ ?_
      clear hK K
      refine done_ (done_of HT_.out rfK) ?_
      try go_wp2
      go_roundg k1
      case measure => have := HK1.out; omega
      case rel => exact ⟨(bX), (wrap64 (aa + 1)), rfG, H', ⟨by have := HK1.out; omega⟩, ⟨by (with_reducible repeat (first | apply Kd.S_alloc | apply Kd.S_drewN | apply Kd.S_drew)); exact HQ50.out⟩, ⟨eTx HB.out⟩⟩
   ·have b5 := decide_eq_false c2
    clear c2
    obtain rfl := smI H
    go_wp2
    go_ret
    exact ⟨_, rfF, by (with_reducible repeat (first | apply Kd.S_alloc | apply Kd.S_drewN | apply Kd.S_drew)); exact aj.out, eTx HB.out⟩

/-! ### graftwoodref16_May: function 14 -/
def graftwoodref16_May.f (k : Nat) (l0 : List (S63)) : Option (Bool) := (graftwoodref16_All.f k l0).bind fun av => ((graftwoodref05_Check.f k av).bind fun a7 => (if a7 = true then ((graftwoodref16_Of.f k av).bind fun aM => ((graftwoodref16_Same.f k l0 aM).bind fun aK => (some aK))) else (some false)))
theorem graftwoodref16_May.mono : ∀ a0 k, LeO (graftwoodref16_May.f k a0) (graftwoodref16_May.f (k + 1) a0) := by
 intro a0 k
 unfold graftwoodref16_May.f
 repeat' first | (with_reducible first | apply graftwoodref05_Check.mono | apply graftwoodref16_All.mono | apply graftwoodref16_Of.mono | apply graftwoodref16_Same.mono | apply LeO.refl | apply LeO.none | apply LeO.ite | refine LeO.bind ?_ (fun _ => ?_)) | apply graftwoodref05_Check.mono | apply graftwoodref16_All.mono | apply graftwoodref16_Of.mono | apply graftwoodref16_Same.mono | exact LeO.none _ | refine LeO.ite ?_ ?_ | refine LeO.bind ?_ (fun _ => ?_)
theorem graftwoodref16_May.calls (k : Nat) (A0 : Option Addr) (c0 : Nat) (l0 : List (S63)) (r : Bool) (w : World) (hr0 : Kd.C k63 w A0 l0.length l0) (hc0 : l0.length ≤ c0) (h : graftwoodref16_May.f k l0 = some r) :
  Calls Tryz.prog 14 #[.slice A0 l0.length c0] w fun e w' => e = .returned (.bool r) ∧ Below w.heap.size w w' := by
 have HR0 := Aside0.mk hr0
 have HC0 := Aside0.mk hc0
 clear hr0 hc0
 have HB := am (Below.refl w.heap.size w)
 unfold graftwoodref16_May.f at h; have H := h; clear h
 replace H := bnd H; obtain ⟨av, A2, H⟩ := H
 replace H := bnd H; obtain ⟨a7, A3, H⟩ := H
 replace H := ifB H; rcases H with ⟨rfl, H⟩ | ⟨rfl, H⟩
 ·replace H := bnd H; obtain ⟨aM, A5, H⟩ := H
  replace H := bnd H; obtain ⟨aK, A6, H⟩ := H
  obtain rfl := smI H
  go_enter Tryz.func14, Tryz.ntmps14
  go_wp2_with (first | ((with_reducible refine gtC 35 ?_); refine xCl 5 Tryz.func35 (graftwoodref16_All.calls k _ _ l0 av _ (cW (HR0.out)) HC0.out A2.out) ?_; rintro e w7 ⟨ci, rfl, ho0, hb⟩; refine ⟨_, rfl, ?_⟩; have au := am (Kd.R_lower ho0 (below_size (eTx HB.out))); replace HB := am (sTx HB.out hb); obtain ⟨Ao8, co8, eo8⟩ := Kd.R_slice au.out; subst eo8) | ((with_reducible refine gtC 34 ?_); refine xCb 7 Tryz.func34 (graftwoodref05_Check.calls k _ _ av true _ (cW (Kd.R_reads' au.out).2.2) ((Kd.R_reads' au.out).2.1) A3.out) fun w9 hb => ?_; replace au := am (rB au.out hb); replace HB := am (sTx HB.out hb)) | (go_at_call 37; (with_reducible refine (graftwoodref16_Of.calls k _ _ av aM _ (cW (Kd.R_reads' au.out).2.2) ((Kd.R_reads' au.out).2.1) A5.out).mono ?_); rintro e w10 ⟨cH, rfl, ho0, hb⟩; replace au := am (rB au.out hb); have bp := am (Kd.S_lower ho0 (below_size (eTx HB.out))); replace HB := am (sTx HB.out hb); obtain ⟨cI, cJ, cj⟩ := Kd.S_slice bp.out; subst cj) | (go_at_call 36; (with_reducible refine (graftwoodref16_Same.calls k _ _ l0 _ _ aM aK _ (cW (Kd.C_below HR0.out HB.out)) HC0.out (cW (Kd.S_reads' bp.out).2.2) ((Kd.S_reads' bp.out).2.1) A6.out).mono ?_); rintro e w' ⟨rfl, ⟨nd, rfl⟩⟩))
  go_ret
  exact ⟨rfF, eTx HB.out⟩
 ·obtain rfl := smI H
  go_enter Tryz.func14, Tryz.ntmps14
  go_wp2_with (first | ((with_reducible refine gtC 35 ?_); refine xCl 5 Tryz.func35 (graftwoodref16_All.calls k _ _ l0 av _ (cW (HR0.out)) HC0.out A2.out) ?_; rintro e w12 ⟨ci, rfl, ho0, hb⟩; refine ⟨_, rfl, ?_⟩; have au := am (Kd.R_lower ho0 (below_size (eTx HB.out))); replace HB := am (sTx HB.out hb); obtain ⟨bL, bM, bD⟩ := Kd.R_slice au.out; subst bD) | ((with_reducible refine gtC 34 ?_); refine xCb 7 Tryz.func34 (graftwoodref05_Check.calls k _ _ av false _ (cW (Kd.R_reads' au.out).2.2) ((Kd.R_reads' au.out).2.1) A3.out) fun w14 hb => ?_; replace au := am (rB au.out hb); replace HB := am (sTx HB.out hb)))
  go_ret
  exact ⟨rfF, eTx HB.out⟩

end Go.Proofs.YtknmfmedklfepaaGreatDoor.P
