-- half the indentation
import Derived.Test.YtknmfmedklfepaaDoorSqz
import Derived.Test.YtknmfmedklfepaaDoorP0
import Derived.Test.YtknmfmedklfepaaDoorP9
import Derived.Test.YtknmfmedklfepaaDoorP17
import Derived.Test.YtknmfmedklfepaaDoorP18
import Derived.Test.YtknmfmedklfepaaDoorP21
import Derived.Test.YtknmfmedklfepaaDoorP23
namespace Go.Proofs.YtknmfmedklfepaaDoor.P
open Go.RowKit Go.Proofs.YtknmfmedklfepaaDoorW.PrintWords Go.Proofs.YtknmfmedklfepaaDoorW.PrintLast Go.Proofs.YtknmfmedklfepaaDoorW.PrintMore
attribute [local go_sem] max2_int min2_int max_two min_two max_three min_three max_four min_four
set_option linter.unusedVariables false
set_option linter.unusedSimpArgs false
set_option maxHeartbeats 8000000
set_option maxRecDepth 100000

/-! ### tally_Check: function 42 -/
mutual
def tally_Check.l0 : Nat → List (S58) → List (S58) → Int → Int → Option (Int)
 | 0, _, _, _, _ => none
 | k + 1, x0, x7, x8, x9 => if x9 < x8 then (if 0 ≤ x9 then (if x9 < (x7.length : Int) then ((path_May.f k ((rd_T58 x7 x9).f0)).bind fun aV => (if aV = true then (if (((rd_T58 x7 x9).f1).length : Int) = 0 then (tally_Check.j1 k x0 x7 x8 x9 true ((rd_T58 x7 x9).f0) ((rd_T58 x7 x9).f1)) else (if x9 > 0 then (if 0 ≤ (wrap64 (x9 - 1)) then (if (wrap64 (x9 - 1)) < (x0.length : Int) then ((octet_Cmp.f ((rd_T58 x0 (wrap64 (x9 - 1))).f0) ((rd_T58 x7 x9).f0)).bind fun aC => (tally_Check.j1 k x0 x7 x8 x9 (decide (aC ≥ 0)) ((rd_T58 x7 x9).f0) ((rd_T58 x7 x9).f1))) else (none)) else (none)) else (tally_Check.j1 k x0 x7 x8 x9 false ((rd_T58 x7 x9).f0) ((rd_T58 x7 x9).f1)))) else (tally_Check.j1 k x0 x7 x8 x9 true ((rd_T58 x7 x9).f0) ((rd_T58 x7 x9).f1)))) else (none)) else (none)) else (some 0)
def tally_Check.j1 : Nat → List (S58) → List (S58) → Int → Int → Bool → ByteArray → List ByteArray → Option (Int)
 | 0, _, _, _, _, _, _, _ => none
 | k + 1, x0, x7, x8, x9, x39, aB, ap => if x39 = true then (some 1) else (tally_Check.l1 k x0 x7 x8 x9 ap (ap.length : Int) 0 aB ap)
def tally_Check.l1 : Nat → List (S58) → List (S58) → Int → Int → List ByteArray → Int → Int → ByteArray → List ByteArray → Option (Int)
 | 0, _, _, _, _, _, _, _, _, _ => none
 | k + 1, x0, x7, x8, x9, x41, x42, x43, aB, ap => if x43 < x42 then (if 0 ≤ x43 then (if x43 < (x41.length : Int) then ((version_May.f k (rdOf ByteArray.empty x41 x43)).bind fun aW => (if aW = true then (if x43 > 0 then (if 0 ≤ (wrap64 (x43 - 1)) then (if (wrap64 (x43 - 1)) < (ap.length : Int) then ((tally_order.f k (rdOf ByteArray.empty ap (wrap64 (x43 - 1))) (rdOf ByteArray.empty x41 x43)).bind fun ax => (if ax ≥ 0 then (some 1) else (tally_Check.l1 k x0 x7 x8 x9 x41 x42 (wrap64 (x43 + 1)) aB ap))) else (none)) else (none)) else (tally_Check.l1 k x0 x7 x8 x9 x41 x42 (wrap64 (x43 + 1)) aB ap)) else (some 1))) else (none)) else (none)) else (tally_Check.l0 k x0 x7 x8 (wrap64 (x9 + 1)))
end
def tally_Check.f (k : Nat) (l0 : List (S58)) : Option (Int) := tally_Check.l0 k l0 l0 (l0.length : Int) 0
theorem tally_Check.mono_l : ∀ k, (∀ y0 y1 y2 y3, LeO (tally_Check.l0 k y0 y1 y2 y3) (tally_Check.l0 (k + 1) y0 y1 y2 y3)) ∧ (∀ y0 y1 y2 y3 y4 y5 y6, LeO (tally_Check.j1 k y0 y1 y2 y3 y4 y5 y6) (tally_Check.j1 (k + 1) y0 y1 y2 y3 y4 y5 y6)) ∧ (∀ y0 y1 y2 y3 y4 y5 y6 y7 y8, LeO (tally_Check.l1 k y0 y1 y2 y3 y4 y5 y6 y7 y8) (tally_Check.l1 (k + 1) y0 y1 y2 y3 y4 y5 y6 y7 y8))
 | 0 => ⟨fun _ _ _ _ r h => by simp [tally_Check.l0] at h, fun _ _ _ _ _ _ _ r h => by simp [tally_Check.j1] at h, fun _ _ _ _ _ _ _ _ _ r h => by simp [tally_Check.l1] at h⟩
 | k + 1 => by
  obtain ⟨ih0, ih1, ih2⟩ := tally_Check.mono_l k
  refine ⟨?_, ?_, ?_⟩
  ·intro y0 y1 y2 y3
   unfold tally_Check.l0
   repeat' first | (with_reducible first | apply ih0 | apply ih1 | apply ih2 | apply path_May.mono | apply tally_order.mono | apply version_May.mono | apply LeO.refl | apply LeO.none | apply LeO.ite | refine LeO.bind ?_ (fun _ => ?_)) | apply ih0 | apply ih1 | apply ih2 | apply path_May.mono | apply tally_order.mono | apply version_May.mono | exact LeO.none _ | refine LeO.ite ?_ ?_ | refine LeO.bind ?_ (fun _ => ?_)
  ·intro y0 y1 y2 y3 y4 y5 y6
   unfold tally_Check.j1
   repeat' first | (with_reducible first | apply ih0 | apply ih1 | apply ih2 | apply path_May.mono | apply tally_order.mono | apply version_May.mono | apply LeO.refl | apply LeO.none | apply LeO.ite | refine LeO.bind ?_ (fun _ => ?_)) | apply ih0 | apply ih1 | apply ih2 | apply path_May.mono | apply tally_order.mono | apply version_May.mono | exact LeO.none _ | refine LeO.ite ?_ ?_ | refine LeO.bind ?_ (fun _ => ?_)
  ·intro y0 y1 y2 y3 y4 y5 y6 y7 y8
   unfold tally_Check.l1
   repeat' first | (with_reducible first | apply ih0 | apply ih1 | apply ih2 | apply path_May.mono | apply tally_order.mono | apply version_May.mono | apply LeO.refl | apply LeO.none | apply LeO.ite | refine LeO.bind ?_ (fun _ => ?_)) | apply ih0 | apply ih1 | apply ih2 | apply path_May.mono | apply tally_order.mono | apply version_May.mono | exact LeO.none _ | refine LeO.ite ?_ ?_ | refine LeO.bind ?_ (fun _ => ?_)
theorem tally_Check.mono : ∀ a0 k, LeO (tally_Check.f k a0) (tally_Check.f (k + 1) a0) := by
 intro a0 k
 obtain ⟨ih0, ih1, ih2⟩ := tally_Check.mono_l k
 unfold tally_Check.f
 repeat' first | (with_reducible first | apply ih0 | apply ih1 | apply ih2 | apply path_May.mono | apply tally_order.mono | apply version_May.mono | apply LeO.refl | apply LeO.none | apply LeO.ite | refine LeO.bind ?_ (fun _ => ?_)) | apply ih0 | apply ih1 | apply ih2 | apply path_May.mono | apply tally_order.mono | apply version_May.mono | exact LeO.none _ | refine LeO.ite ?_ ?_ | refine LeO.bind ?_ (fun _ => ?_)
def tally_Check.T4 : Bool × List (List Nat × List Nat) := (true, [([], []), ([0], [0]), ([1], [1]), ([2], [2]), ([3, 2], [3]), ([4], [4]), ([5, 4], [4, 5]), ([6, 4], [4, 6]), ([7, 4], [4, 7]), ([4, 8], [4, 8]), ([9, 4], [9]), ([10], [10]), ([11, 10], [10, 11]), ([12, 10, 10], [10, 12]), ([13], [13]), ([13], [13]), ([15, 13], [13, 15]), ([14, 16, 13], [13, 14, 16]), ([17, 13], [13, 17]), ([18, 13], [13, 18]), ([13], [13]), ([20, 13], [13, 20]), ([19, 21, 13, 13], [13, 19, 21]), ([22, 13], [13, 22]), ([13, 23, 10], [10, 13, 23]), ([10, 24], [10, 24])])
def tally_Check.B4 : List Nat := [0, 1, 3, 7, 15, 31, 63, 127, 255, 511, 1023, 2047, 4095, 8191, 16383, 16383, 49151, 131071, 262143, 524287, 16383, 1064959, 4194303, 8388607, 16777215, 33554431]
theorem tally_Check.tab4 : rtab .any (opsOf Tryd.f42 4) = tally_Check.T4 := by kernel_rfl
theorem tally_Check.bits4 : waitsOk tally_Check.T4.2 tally_Check.B4 = true := by kernel_rfl
theorem tally_Check.calls (k : Nat) (A0 : Option Addr) (c0 : Nat) (l0 : List (S58)) (r : Int) (w : World) (hr0 : Kd.C k58 w A0 l0.length l0) (hc0 : l0.length ≤ c0) (h : tally_Check.f k l0 = some r) :
  Calls Tryd.prog 42 #[.slice A0 l0.length c0] w fun e w' => e = .returned (.int .i64 r) ∧ Below w.heap.size w w' := by
 have hu58 := Tryd.underlying58
 have HR0 := Aside0.mk hr0
 have HC0 := Aside0.mk hc0
 clear hr0 hc0
 have HB := am (Below.refl w.heap.size w)
 unfold tally_Check.f at h; have H := h; clear h
 have H' := Aside0.mk H
 clear H
 go_enter Tryd.func42, Tryd.ntmps42
 go_wp2
 go_loopg [9] k (fun kq v9 w' => ∃ (aa : Int), v9 = .int .i64 aa ∧ Aside0 (tally_Check.l0 kq l0 l0 (l0.length : Int) aa = some r) ∧ Aside0 (kq ≤ k) ∧ Aside0 (Below w.heap.size w w'))
 case atStart => exact ⟨(0), rfG, H', ⟨Nat.le_refl _⟩, ⟨eTx HB.out⟩⟩
 case round =>
  clear H'
  obtain ⟨aa, rfl, HA, HK1, HB⟩ := hrel
  cases gk with
  | zero => exact absurd HA.out (by simp [tally_Check.l0])
  | succ k1 =>
   have H := HA.out
   clear HA
   simp only [tally_Check.l0] at H
   replace H := ifP H; rcases H with ⟨c2, H⟩ | ⟨c2, H⟩
   ·have bv := decide_eq_true c2
    clear c2
    replace H := ifN H; obtain ⟨c3, H⟩ := H
    have bM := decide_eq_true c3
    clear c3
    replace H := ifN H; obtain ⟨c4, H⟩ := H
    have bN := decide_eq_true c4
    clear c4
    have HC5 := Aside0.mk H
    clear H
    have p249 : 0 ≤ (aa : Int) := of_decide_eq_true rfA
    have q249 : aa < (l0.length : Int) := of_decide_eq_true rfA
    obtain ⟨ad249, ag, ae, e249, aE, aF, hl249_1, hi249_1⟩ := at_T58 HR0.out aa p249 q249
    cases e249
    replace aE := (HB.out.cell (World.block_lt_of_cell? w _ aE)).trans aE
    replace aF := (HB.out.cell (World.block_lt_of_cell? w _ aF)).trans aF
    have au := Aside0.mk hi249_1
    have bk := Aside0.mk hl249_1
    clear hi249_1 hl249_1
    replace p249 := eq_true p249
    replace q249 := eq_true q249
    go_upto_region 4 with (first | ((with_reducible refine gtD 4 ?_); (try (refine gate_guard (by rfl) ?_; dsimp only)); refine xBx 4 58 #[.string (⟨#[]⟩ : ByteArray), .slice none 0 0] ?_; intro ad hg w6 hbox hb; have ab := am (hbox); have bE := am ((gTx hg HB.out)); have bF := am ((gTx hg HB.out)); replace HB := am (sTx HB.out hb); clear hb hbox hg; obtain ⟨bw, bx, bz, bC⟩ := bxB ab))
    (try simp only [Act.put, List.setIfInBounds_toArray, List.set_cons_zero, List.set_cons_succ])
    go_cut [39] (fun v39 wc => ∃ (kq : Nat) (aI : Bool), v39 = .bool aI ∧ Aside0 (tally_Check.j1 kq l0 l0 (l0.length : Int) aa aI ((rd_T58 l0 aa).f0) ((rd_T58 l0 aa).f1) = some r) ∧ Aside0 (kq ≤ k1) ∧ Aside0 (wc.heap[ad]? = some (.cells #[.string ((rd_T58 l0 aa).f0), (.slice ag ((rd_T58 l0 aa).f1).length ae)] 58 (0, 0))) ∧ Aside0 (Below w.heap.size w wc))
    case first =>
     have H := HC5.out
     clear HC5
     replace H := bnd H; obtain ⟨aV, A8, H⟩ := H
     replace H := ifB H; rcases H with ⟨rfl, H⟩ | ⟨rfl, H⟩
     ·replace H := ifP H; rcases H with ⟨c10, H⟩ | ⟨c10, H⟩
      ·have aG := beq_iff_eq.mpr c10
       have a7 := bne_eq_false_iff_eq.mpr c10
       clear c10
       (first | rw [aG] | (simp only [i64_w, i32_w]; rw [aG]) | skip)
       have H' := Aside0.mk H
       clear H
       try go_wp2
       obtain ⟨w11, hW_⟩ : ∃ W_, ((w6.setCell ⟨ad, 0, none⟩ (.string ((rd_T58 l0 aa).f0))).setCell ⟨ad, 1, none⟩ (.slice ag ((rd_T58 l0 aa).f1).length ae)) = W_ := ⟨_, rfl⟩
       have n0_ : Aside0 (w11.heap[ad]? = some (.cells #[.string ((rd_T58 l0 aa).f0), .slice ag ((rd_T58 l0 aa).f1).length ae] 58 (0, 0))) := ⟨by rw [← hW_]; exact kBk⟩
       have n1_ : Aside0 (Below w.heap.size w w11) := ⟨by rw [← hW_]; exact eTx HB.out⟩
       rw [hW_]
       clear hW_
       have ab := n0_
       have HB := n1_
       clear n0_ n1_
       replace ab := am (blk_drew ab.out)
       replace HB := am (below_drew1 HB.out)
       refine start_ (n := 26) (S := fun w' => w'.cell? ⟨ad, 0, none⟩ = some (.string ((rd_T58 l0 aa).f0)) ∧ w'.cell? ⟨ad, 1, none⟩ = some (.slice ag ((rd_T58 l0 aa).f1).length ae)) (ds := []) (bA 26 0) rfK rfl rfK ⟨cT ab 0, cT ab 1⟩ (fun hHeld => ?_); refine with_tabW tally_Check.tab4 tally_Check.bits4 (fun HT_ HW_ => ?_)
       generalize w11.drew = w12 at ab HB hHeld ⊢
       refine pT 0 14 (bA 26 1) HT_.out ?_
       refine tT 1 15 (bA 26 3) HT_.out HW_.out hHeld ?_ (hy := by rintro w' ⟨s0, s1⟩; go_simp; with_reducible rfl)
       refine oT 2 (bA 26 7) HT_.out fun K hK => ?_
       refine gS Tryd.func21 #[.string ((rd_T58 l0 aa).f0)] ?_
       with_reducible refine (path_May.calls k1 ((rd_T58 l0 aa).f0) true _ A8.out).mono ?_
       rintro e w13 ⟨rfl, hb⟩
       refine ⟨_, rfl, ?_⟩
       replace ab := am (bB ab.out hb)
       replace HB := am (sTx HB.out hb)
       refine hK.out _ _ ⟨cT ab 0, cT ab 1⟩ (fun hHeld => ?_)
       clear hK K
       refine mN 16 ?_
       refine pT 3 17 (bA 26 15) HT_.out ?_
       refine pT 4 18 (bA 26 31) HT_.out ?_
       refine pT 5 19 (bA 26 63) HT_.out ?_
       refine tT 6 20 (bA 26 127) HT_.out HW_.out hHeld ?_ (hy := by rintro w' ⟨s0, s1⟩; go_simp; with_reducible rfl)
       refine pT 7 21 (bA 26 255) HT_.out ?_
       refine pT 8 22 (bA 26 511) HT_.out ?_
       refine pT 9 23 (bA 26 1023) HT_.out ?_
       refine pT 10 24 (bA 26 2047) HT_.out ?_
       refine pU 11 25 (bA 26 4095) HT_.out ?_
       refine pU 12 26 (bA 26 8191) HT_.out ?_
       refine pU 13 27 (bA 26 16383) HT_.out ?_
       refine pU 14 28 (bA 26 32767) HT_.out ?_
       refine pU 15 29 (bA 26 65535) HT_.out ?_
       refine pU 16 30 (bA 26 131071) HT_.out ?_
       refine pU 17 31 (bA 26 262143) HT_.out ?_
       refine pU 18 32 (bA 26 524287) HT_.out ?_
       refine pU 19 33 (bA 26 1048575) HT_.out ?_
       refine pU 20 34 (bA 26 2097151) HT_.out ?_
       refine pU 21 35 (bA 26 4194303) HT_.out ?_
       refine pU 22 36 (bA 26 8388607) HT_.out ?_
       refine pU 23 37 (bA 26 16777215) HT_.out ?_
       refine pU 24 38 (bA 26 33554431) HT_.out ?_
       refine pT 25 39 (bA 26 67108863) HT_.out ?_
       refine done_ (done_of HT_.out rfK) ?_
       try go_wp2
       go_meet
       case rel => exact ⟨_, (true), rfG, H', ⟨by have := HK1.out; first | omega | exact Nat.le_refl _⟩, ⟨bT ab.out⟩, ⟨eTx HB.out⟩⟩
      ·have aG := beq_eq_false_iff_ne.mpr c10
       have a7 := bne_iff_ne.mpr c10
       have bG : ¬ (((rd_T58 l0 aa).f1) = []) := fun h_ => c10 (by rw [h_]; rfl)
       (first | rw [aG] | (simp only [i64_w, i32_w]; rw [aG]) | skip)
       replace H := ifP H; rcases H with ⟨c14, H⟩ | ⟨c14, H⟩
       ·have aJ : decide (0 < aa) = true := decide_eq_true c14
        clear c14
        obtain ⟨ak, ar⟩ : ∃ j_ : Int, (wrap64 (aa - 1)) = j_ := ⟨_, rfl⟩
        replace H : (if 0 ≤ (ak) then (if (ak) < (l0.length : Int) then ((octet_Cmp.f ((rd_T58 l0 (ak)).f0) ((rd_T58 l0 aa).f0)).bind fun aC => (tally_Check.j1 k1 l0 l0 (l0.length : Int) aa (decide (aC ≥ 0)) ((rd_T58 l0 aa).f0) ((rd_T58 l0 aa).f1))) else (none)) else (none)) = some r := by first | (rw [ar] at H; exact H) | (simp only [ar] at H ⊢; exact H)
        (try rw [ar] at A8)
        have a4 : (IntKind.i64.wrap (aa - 1)) = ak := (i64_w _).trans ar
        replace H := ifN H; obtain ⟨c16, H⟩ := H
        have a8 := decide_eq_true c16
        clear c16
        replace H := ifN H; obtain ⟨c17, H⟩ := H
        have a9 := decide_eq_true c17
        clear c17
        replace H := bnd H; obtain ⟨aC, A18, H⟩ := H
        have H' := Aside0.mk H
        clear H
        try go_wp2
        obtain ⟨w19, hW_⟩ : ∃ W_, ((w6.setCell ⟨ad, 0, none⟩ (.string ((rd_T58 l0 aa).f0))).setCell ⟨ad, 1, none⟩ (.slice ag ((rd_T58 l0 aa).f1).length ae)) = W_ := ⟨_, rfl⟩
        have n0_ : Aside0 (w19.heap[ad]? = some (.cells #[.string ((rd_T58 l0 aa).f0), .slice ag ((rd_T58 l0 aa).f1).length ae] 58 (0, 0))) := ⟨by rw [← hW_]; exact kBk⟩
        have n1_ : Aside0 (Below w.heap.size w w19) := ⟨by rw [← hW_]; exact eTx HB.out⟩
        rw [hW_]
        clear hW_
        have ab := n0_
        have HB := n1_
        clear n0_ n1_
        replace ab := am (blk_drew ab.out)
        replace HB := am (below_drew1 HB.out)
        have p252 : 0 ≤ ((ak) : Int) := of_decide_eq_true rfA
        have q252 : (ak) < (l0.length : Int) := of_decide_eq_true rfA
        obtain ⟨ad252, a5, a6, e252, ay, az, hl252_1, hi252_1⟩ := at_T58 HR0.out (ak) p252 q252
        have hw252_1 := az
        have hw252_0 := ay
        obtain rfl : ad249 = ad252 := (by injection e252)
        replace ay := (HB.out.cell (World.block_lt_of_cell? w _ ay)).trans ay
        replace az := (HB.out.cell (World.block_lt_of_cell? w _ az)).trans az
        have aX := Aside0.mk hi252_1
        have bl := Aside0.mk hl252_1
        clear hi252_1 hl252_1
        replace p252 := eq_true p252
        replace q252 := eq_true q252
        refine start_ (n := 26) (S := fun w' => w'.cell? ⟨ad, 0, none⟩ = some (.string ((rd_T58 l0 aa).f0)) ∧ w'.cell? ⟨ad, 1, none⟩ = some (.slice ag ((rd_T58 l0 aa).f1).length ae) ∧ w'.cell? (ad249.add (((ak)).toNat * 2)) = some (.string ((rd_T58 l0 (ak)).f0)) ∧ w'.cell? ⟨(ad249.add (((ak)).toNat * 2)).block, (ad249.add (((ak)).toNat * 2)).off + 1, none⟩ = some (.slice a5 ((rd_T58 l0 (ak)).f1).length a6)) (ds := []) (bA 26 0) rfK rfl rfK ⟨cT ab 0, cT ab 1, ((HB.out.cell (World.block_lt_of_cell? w _ hw252_0)).trans hw252_0), ((HB.out.cell (World.block_lt_of_cell? w _ hw252_1)).trans hw252_1)⟩ (fun hHeld => ?_); refine with_tabW tally_Check.tab4 tally_Check.bits4 (fun HT_ HW_ => ?_)
        generalize w19.drew = w20 at ab HB aX ay az hHeld ⊢
        refine pT 0 14 (bA 26 1) HT_.out ?_
        refine tT 1 15 (bA 26 3) HT_.out HW_.out hHeld ?_ (hy := by rintro w' ⟨s0, s1, s2, s3⟩; go_simp; with_reducible rfl)
        refine oT 2 (bA 26 7) HT_.out fun K hK => ?_
        refine gS Tryd.func21 #[.string ((rd_T58 l0 aa).f0)] ?_
        with_reducible refine (path_May.calls k1 ((rd_T58 l0 aa).f0) true _ A8.out).mono ?_
        rintro e w21 ⟨rfl, hb⟩
        refine ⟨_, rfl, ?_⟩
        replace ab := am (bB ab.out hb)
        replace HB := am (sTx HB.out hb)
        refine hK.out _ _ ⟨cT ab 0, cT ab 1, ((HB.out.cell (World.block_lt_of_cell? w _ hw252_0)).trans hw252_0), ((HB.out.cell (World.block_lt_of_cell? w _ hw252_1)).trans hw252_1)⟩ (fun hHeld => ?_)
        clear hK K
        refine mN 16 ?_
        refine pT 3 17 (bA 26 15) HT_.out ?_
        refine pT 4 18 (bA 26 31) HT_.out ?_
        refine pT 5 19 (bA 26 63) HT_.out ?_
        refine tT 6 20 (bA 26 127) HT_.out HW_.out hHeld ?_ (hy := by rintro w' ⟨s0, s1, s2, s3⟩; go_simp; with_reducible rfl)
        refine pT 7 21 (bA 26 255) HT_.out ?_
        refine pT 8 22 (bA 26 511) HT_.out ?_
        refine pT 9 23 (bA 26 1023) HT_.out ?_
        refine pT 10 24 (bA 26 2047) HT_.out ?_
        refine pT 11 25 (bA 26 4095) HT_.out ?_
        refine pT 12 26 (bA 26 8191) HT_.out ?_
        refine pT 13 27 (bA 26 16383) HT_.out ?_
        refine pT 14 28 (bA 26 32767) HT_.out ?_
        refine pT 15 29 (bA 26 65535) HT_.out ?_
        refine pT 16 30 (bA 26 131071) HT_.out ?_
        refine pT 17 31 (bA 26 262143) HT_.out ?_
        refine pT 18 32 (bA 26 524287) HT_.out ?_
        refine pT 20 34 (bA 26 1572863) HT_.out ?_
        refine tT 19 33 (bA 26 2097151) HT_.out HW_.out hHeld ?_ (hy := by rintro w' ⟨s0, s1, s2, s3⟩; go_simp; with_reducible rfl)
        refine tT 21 35 (bA 26 4194303) HT_.out HW_.out hHeld ?_ (hy := by rintro w' ⟨s0, s1, s2, s3⟩; go_simp; with_reducible rfl)
        refine oT 22 (bA 26 8388607) HT_.out fun K hK => ?_
        refine goes_ Tryd.func46 rfK rfl #[.string ((rd_T58 l0 (ak)).f0), .string ((rd_T58 l0 aa).f0)] (by rfl) rfl rfl (by (try simp only [List.map_toArray, List.map_cons, List.map_nil]); first | done | (simp only [ar]; rfl) | rfl | (simp only [List.length_drop, List.length_take]; rfl)) ?_
        with_reducible refine (octet_Cmp.calls ((rd_T58 l0 (ak)).f0) ((rd_T58 l0 aa).f0) aC _ A18.out).mono ?_
        rintro e w' ⟨rfl, ⟨nd, rfl⟩⟩
        refine ⟨_, rfl, ?_⟩
        refine hK.out _ _ ⟨cT ab 0, cT ab 1, ((HB.out.cell (World.block_lt_of_cell? w _ hw252_0)).trans hw252_0), ((HB.out.cell (World.block_lt_of_cell? w _ hw252_1)).trans hw252_1)⟩ (fun hHeld => ?_)
        clear hK K
        refine mN 36 ?_
        refine pT 23 37 (bA 26 16777215) HT_.out ?_
        refine pT 24 38 (bA 26 33554431) HT_.out ?_
        refine pT 25 39 (bA 26 67108863) HT_.out ?_
        refine done_ (done_of HT_.out rfK) ?_
        try go_wp2
        go_meet
        case rel => exact ⟨_, (decide (aC ≥ 0)), rfG, H', ⟨by have := HK1.out; first | omega | exact Nat.le_refl _⟩, ⟨bT ab.out⟩, ⟨eTx HB.out⟩⟩
       ·have aJ : decide (0 < aa) = false := decide_eq_false c14
        clear c14
        have H' := Aside0.mk H
        clear H
        try go_wp2
        obtain ⟨w22, hW_⟩ : ∃ W_, ((w6.setCell ⟨ad, 0, none⟩ (.string ((rd_T58 l0 aa).f0))).setCell ⟨ad, 1, none⟩ (.slice ag ((rd_T58 l0 aa).f1).length ae)) = W_ := ⟨_, rfl⟩
        have n0_ : Aside0 (w22.heap[ad]? = some (.cells #[.string ((rd_T58 l0 aa).f0), .slice ag ((rd_T58 l0 aa).f1).length ae] 58 (0, 0))) := ⟨by rw [← hW_]; exact kBk⟩
        have n1_ : Aside0 (Below w.heap.size w w22) := ⟨by rw [← hW_]; exact eTx HB.out⟩
        rw [hW_]
        clear hW_
        have ab := n0_
        have HB := n1_
        clear n0_ n1_
        replace ab := am (blk_drew ab.out)
        replace HB := am (below_drew1 HB.out)
        refine start_ (n := 26) (S := fun w' => w'.cell? ⟨ad, 0, none⟩ = some (.string ((rd_T58 l0 aa).f0)) ∧ w'.cell? ⟨ad, 1, none⟩ = some (.slice ag ((rd_T58 l0 aa).f1).length ae)) (ds := []) (bA 26 0) rfK rfl rfK ⟨cT ab 0, cT ab 1⟩ (fun hHeld => ?_); refine with_tabW tally_Check.tab4 tally_Check.bits4 (fun HT_ HW_ => ?_)
        generalize w22.drew = w23 at ab HB hHeld ⊢
        refine pT 0 14 (bA 26 1) HT_.out ?_
        refine tT 1 15 (bA 26 3) HT_.out HW_.out hHeld ?_ (hy := by rintro w' ⟨s0, s1⟩; go_simp; with_reducible rfl)
        refine oT 2 (bA 26 7) HT_.out fun K hK => ?_
        refine gS Tryd.func21 #[.string ((rd_T58 l0 aa).f0)] ?_
        with_reducible refine (path_May.calls k1 ((rd_T58 l0 aa).f0) true _ A8.out).mono ?_
        rintro e w24 ⟨rfl, hb⟩
        refine ⟨_, rfl, ?_⟩
        replace ab := am (bB ab.out hb)
        replace HB := am (sTx HB.out hb)
        refine hK.out _ _ ⟨cT ab 0, cT ab 1⟩ (fun hHeld => ?_)
        clear hK K
        refine mN 16 ?_
        refine pT 3 17 (bA 26 15) HT_.out ?_
        refine pT 4 18 (bA 26 31) HT_.out ?_
        refine pT 5 19 (bA 26 63) HT_.out ?_
        refine tT 6 20 (bA 26 127) HT_.out HW_.out hHeld ?_ (hy := by rintro w' ⟨s0, s1⟩; go_simp; with_reducible rfl)
        refine pT 7 21 (bA 26 255) HT_.out ?_
        refine pT 8 22 (bA 26 511) HT_.out ?_
        refine pT 9 23 (bA 26 1023) HT_.out ?_
        refine pT 10 24 (bA 26 2047) HT_.out ?_
        refine pT 11 25 (bA 26 4095) HT_.out ?_
        refine pT 12 26 (bA 26 8191) HT_.out ?_
        refine pT 13 27 (bA 26 16383) HT_.out ?_
        refine pU 14 28 (bA 26 32767) HT_.out ?_
        refine pU 15 29 (bA 26 65535) HT_.out ?_
        refine pU 16 30 (bA 26 131071) HT_.out ?_
        refine pU 17 31 (bA 26 262143) HT_.out ?_
        refine pU 18 32 (bA 26 524287) HT_.out ?_
        refine pU 19 33 (bA 26 1048575) HT_.out ?_
        refine pU 20 34 (bA 26 2097151) HT_.out ?_
        refine pU 21 35 (bA 26 4194303) HT_.out ?_
        refine pU 22 36 (bA 26 8388607) HT_.out ?_
        refine pU 23 37 (bA 26 16777215) HT_.out ?_
        refine pT 24 38 (bA 26 33554431) HT_.out ?_
        refine pT 25 39 (bA 26 67108863) HT_.out ?_
        refine done_ (done_of HT_.out rfK) ?_
        try go_wp2
        go_meet
        case rel => exact ⟨_, (false), rfG, H', ⟨by have := HK1.out; first | omega | exact Nat.le_refl _⟩, ⟨bT ab.out⟩, ⟨eTx HB.out⟩⟩
     ·have H' := Aside0.mk H
      clear H
      try go_wp2
      obtain ⟨w25, hW_⟩ : ∃ W_, ((w6.setCell ⟨ad, 0, none⟩ (.string ((rd_T58 l0 aa).f0))).setCell ⟨ad, 1, none⟩ (.slice ag ((rd_T58 l0 aa).f1).length ae)) = W_ := ⟨_, rfl⟩
      have n0_ : Aside0 (w25.heap[ad]? = some (.cells #[.string ((rd_T58 l0 aa).f0), .slice ag ((rd_T58 l0 aa).f1).length ae] 58 (0, 0))) := ⟨by rw [← hW_]; exact kBk⟩
      have n1_ : Aside0 (Below w.heap.size w w25) := ⟨by rw [← hW_]; exact eTx HB.out⟩
      rw [hW_]
      clear hW_
      have ab := n0_
      have HB := n1_
      clear n0_ n1_
      replace ab := am (blk_drew ab.out)
      replace HB := am (below_drew1 HB.out)
      refine start_ (n := 26) (S := fun w' => w'.cell? ⟨ad, 0, none⟩ = some (.string ((rd_T58 l0 aa).f0)) ∧ w'.cell? ⟨ad, 1, none⟩ = some (.slice ag ((rd_T58 l0 aa).f1).length ae)) (ds := []) (bA 26 0) rfK rfl rfK ⟨cT ab 0, cT ab 1⟩ (fun hHeld => ?_); refine with_tabW tally_Check.tab4 tally_Check.bits4 (fun HT_ HW_ => ?_)
      generalize w25.drew = w26 at ab HB hHeld ⊢
      refine pT 0 14 (bA 26 1) HT_.out ?_
      refine tT 1 15 (bA 26 3) HT_.out HW_.out hHeld ?_ (hy := by rintro w' ⟨s0, s1⟩; go_simp; with_reducible rfl)
      refine oT 2 (bA 26 7) HT_.out fun K hK => ?_
      refine gS Tryd.func21 #[.string ((rd_T58 l0 aa).f0)] ?_
      with_reducible refine (path_May.calls k1 ((rd_T58 l0 aa).f0) false _ A8.out).mono ?_
      rintro e w27 ⟨rfl, hb⟩
      refine ⟨_, rfl, ?_⟩
      replace ab := am (bB ab.out hb)
      replace HB := am (sTx HB.out hb)
      refine hK.out _ _ ⟨cT ab 0, cT ab 1⟩ (fun hHeld => ?_)
      clear hK K
      refine mN 16 ?_
      refine pT 3 17 (bA 26 15) HT_.out ?_
      refine pT 4 18 (bA 26 31) HT_.out ?_
      refine pU 5 19 (bA 26 63) HT_.out ?_
      refine pU 6 20 (bA 26 127) HT_.out ?_
      refine pU 7 21 (bA 26 255) HT_.out ?_
      refine pU 8 22 (bA 26 511) HT_.out ?_
      refine pT 9 23 (bA 26 1023) HT_.out ?_
      refine pT 10 24 (bA 26 2047) HT_.out ?_
      refine pU 11 25 (bA 26 4095) HT_.out ?_
      refine pU 12 26 (bA 26 8191) HT_.out ?_
      refine pU 13 27 (bA 26 16383) HT_.out ?_
      refine pU 14 28 (bA 26 32767) HT_.out ?_
      refine pU 15 29 (bA 26 65535) HT_.out ?_
      refine pU 16 30 (bA 26 131071) HT_.out ?_
      refine pU 17 31 (bA 26 262143) HT_.out ?_
      refine pU 18 32 (bA 26 524287) HT_.out ?_
      refine pU 19 33 (bA 26 1048575) HT_.out ?_
      refine pU 20 34 (bA 26 2097151) HT_.out ?_
      refine pU 21 35 (bA 26 4194303) HT_.out ?_
      refine pU 22 36 (bA 26 8388607) HT_.out ?_
      refine pU 23 37 (bA 26 16777215) HT_.out ?_
      refine pU 24 38 (bA 26 33554431) HT_.out ?_
      refine pT 25 39 (bA 26 67108863) HT_.out ?_
      refine done_ (done_of HT_.out rfK) ?_
      try go_wp2
      go_meet
      case rel => exact ⟨_, (true), rfG, H', ⟨by have := HK1.out; first | omega | exact Nat.le_refl _⟩, ⟨bT ab.out⟩, ⟨eTx HB.out⟩⟩
    case rest =>
     clear HC5
     obtain ⟨kq, aI, rfl, HA, HJ4, ab, HB⟩ := hcut
     cases kq with
     | zero => exact absurd HA.out (by simp [tally_Check.j1])
     | succ kj4 =>
      have H := HA.out
      clear HA
      simp only [tally_Check.j1] at H
      replace H := ifB H; rcases H with ⟨rfl, H⟩ | ⟨rfl, H⟩
      ·obtain rfl := smI H
       go_wp2
       go_ret
       exact ⟨rfF, eTx HB.out⟩
      ·have H' := Aside0.mk H
       clear H
       obtain ⟨aY, aZ, a2, a3⟩ := bxB ab
       go_wp2
       go_loopg [43] kj4 (fun kq v43 w' => ∃ (ac : Int), v43 = .int .i64 ac ∧ Aside0 (tally_Check.l1 kq l0 l0 (l0.length : Int) aa ((rd_T58 l0 aa).f1) (((rd_T58 l0 aa).f1).length : Int) ac ((rd_T58 l0 aa).f0) ((rd_T58 l0 aa).f1) = some r) ∧ Aside0 (kq ≤ kj4) ∧ Aside0 (w'.heap[ad]? = some (.cells #[.string ((rd_T58 l0 aa).f0), (.slice ag ((rd_T58 l0 aa).f1).length ae)] 58 (0, 0))) ∧ Aside0 (Below w.heap.size w w'))
       case atStart => exact ⟨(0), rfG, H', ⟨Nat.le_refl _⟩, ⟨bT ab.out⟩, ⟨eTx HB.out⟩⟩
       case round =>
        clear H'
        obtain ⟨ac, rfl, HA, HK3, ab, HB⟩ := hrel
        cases gk with
        | zero => exact absurd HA.out (by simp [tally_Check.l1])
        | succ k3 =>
         have H := HA.out
         clear HA
         simp only [tally_Check.l1] at H
         replace H := ifP H; rcases H with ⟨c30, H⟩ | ⟨c30, H⟩
         ·have bb := decide_eq_true c30
          clear c30
          replace H := ifN H; obtain ⟨c31, H⟩ := H
          have bH := decide_eq_true c31
          clear c31
          replace H := ifN H; obtain ⟨c32, H⟩ := H
          have bI := decide_eq_true c32
          clear c32
          replace H := bnd H; obtain ⟨aW, A33, H⟩ := H
          replace H := ifB H; rcases H with ⟨rfl, H⟩ | ⟨rfl, H⟩
          ·replace H := ifP H; rcases H with ⟨c35, H⟩ | ⟨c35, H⟩
           ·have be : decide (0 < ac) = true := decide_eq_true c35
            clear c35
            obtain ⟨av, aH⟩ : ∃ j_ : Int, (wrap64 (ac - 1)) = j_ := ⟨_, rfl⟩
            replace H : (if 0 ≤ (av) then (if (av) < (((rd_T58 l0 aa).f1).length : Int) then ((tally_order.f k3 (rdOf ByteArray.empty ((rd_T58 l0 aa).f1) (av)) (rdOf ByteArray.empty ((rd_T58 l0 aa).f1) ac)).bind fun ax => (if ax ≥ 0 then (some 1) else (tally_Check.l1 k3 l0 l0 (l0.length : Int) aa ((rd_T58 l0 aa).f1) (((rd_T58 l0 aa).f1).length : Int) (wrap64 (ac + 1)) ((rd_T58 l0 aa).f0) ((rd_T58 l0 aa).f1)))) else (none)) else (none)) = some r := by first | (rw [aH] at H; exact H) | (simp only [aH] at H ⊢; exact H)
            (try rw [aH] at A33)
            have bD : (IntKind.i64.wrap (ac - 1)) = av := (i64_w _).trans aH
            replace H := ifN H; obtain ⟨c37, H⟩ := H
            have bJ := decide_eq_true c37
            clear c37
            replace H := ifN H; obtain ⟨c38, H⟩ := H
            have bK := decide_eq_true c38
            clear c38
            replace H := bnd H; obtain ⟨ax, A39, H⟩ := H
            replace H := ifP H; rcases H with ⟨c40, H⟩ | ⟨c40, H⟩
            ·have bg : decide (0 ≤ ax) = true := decide_eq_true c40
             clear c40
             obtain rfl := smI H
             have p254 : 0 ≤ (ac : Int) := of_decide_eq_true rfA
             have q254 : ac < (((rd_T58 l0 aa).f1).length : Int) := of_decide_eq_true rfA
             obtain ⟨ad254, e254, ah⟩ := Kd.at_string au.out ac p254 q254
             cases e254
             replace ah := (HB.out.cell (World.block_lt_of_cell? w _ ah)).trans ah
             replace p254 := eq_true p254
             replace q254 := eq_true q254
             go_wp2_with (first | ((with_reducible refine gtC 33 ?_); refine xCb 49 Tryd.func33 (version_May.calls k3 (rdOf ByteArray.empty ((rd_T58 l0 aa).f1) ac) true _ A33.out) fun w41 hb => ?_; replace ab := am (bB ab.out hb); replace HB := am (sTx HB.out hb); obtain ⟨bm, bo, bp, bq⟩ := bxB ab; have p256 : 0 ≤ ((av) : Int) := of_decide_eq_true rfA; have q256 : (av) < (((rd_T58 l0 aa).f1).length : Int) := of_decide_eq_true rfA; obtain ⟨ad256, e256, aq⟩ := Kd.at_string au.out (av) p256 q256; obtain rfl : ad254 = ad256 := (by injection e256); replace aq := (HB.out.cell (World.block_lt_of_cell? w _ aq)).trans aq; replace p256 := eq_true p256; replace q256 := eq_true q256) | (go_at_call 64; (with_reducible refine (tally_order.calls k3 (rdOf ByteArray.empty ((rd_T58 l0 aa).f1) (av)) (rdOf ByteArray.empty ((rd_T58 l0 aa).f1) ac) ax _ A39.out).mono ?_); rintro e w43 ⟨rfl, hb⟩; replace ab := am (bB ab.out hb); replace HB := am (sTx HB.out hb)))
             go_ret
             exact ⟨by first | rfl | (simp [errW_none, errW_some] <;> rfl) | (simp only [← aH]; first | rfl | (simp [errW_none, errW_some] <;> rfl)) | (simp [*, errW_none, errW_some] <;> rfl), eTx HB.out⟩
            ·have bg : decide (0 ≤ ax) = false := decide_eq_false c40
             clear c40
             have H' := Aside0.mk H
             clear H
             have p254 : 0 ≤ (ac : Int) := of_decide_eq_true rfA
             have q254 : ac < (((rd_T58 l0 aa).f1).length : Int) := of_decide_eq_true rfA
             obtain ⟨ad254, e254, ah⟩ := Kd.at_string au.out ac p254 q254
             cases e254
             replace ah := (HB.out.cell (World.block_lt_of_cell? w _ ah)).trans ah
             replace p254 := eq_true p254
             replace q254 := eq_true q254
             go_wp2_with (first | ((with_reducible refine gtC 33 ?_); refine xCb 49 Tryd.func33 (version_May.calls k3 (rdOf ByteArray.empty ((rd_T58 l0 aa).f1) ac) true _ A33.out) fun w44 hb => ?_; replace ab := am (bB ab.out hb); replace HB := am (sTx HB.out hb); obtain ⟨br, bs, bt, bu⟩ := bxB ab; have p256 : 0 ≤ ((av) : Int) := of_decide_eq_true rfA; have q256 : (av) < (((rd_T58 l0 aa).f1).length : Int) := of_decide_eq_true rfA; obtain ⟨ad256, e256, aq⟩ := Kd.at_string au.out (av) p256 q256; obtain rfl : ad254 = ad256 := (by injection e256); replace aq := (HB.out.cell (World.block_lt_of_cell? w _ aq)).trans aq; replace p256 := eq_true p256; replace q256 := eq_true q256) | (go_at_call 64; (with_reducible refine (tally_order.calls k3 (rdOf ByteArray.empty ((rd_T58 l0 aa).f1) (av)) (rdOf ByteArray.empty ((rd_T58 l0 aa).f1) ac) ax _ A39.out).mono ?_); rintro e w46 ⟨rfl, hb⟩; replace ab := am (bB ab.out hb); replace HB := am (sTx HB.out hb)))
             go_roundg k3
             case measure => have := HK1.out; have := HJ4.out; have := HK3.out; omega
             case rel => exact ⟨(wrap64 (ac + 1)), rfG, H', ⟨by have := HK1.out; have := HJ4.out; have := HK3.out; omega⟩, ⟨bT ab.out⟩, ⟨eTx HB.out⟩⟩
           ·have be : decide (0 < ac) = false := decide_eq_false c35
            clear c35
            have H' := Aside0.mk H
            clear H
            have p254 : 0 ≤ (ac : Int) := of_decide_eq_true rfA
            have q254 : ac < (((rd_T58 l0 aa).f1).length : Int) := of_decide_eq_true rfA
            obtain ⟨ad254, e254, ah⟩ := Kd.at_string au.out ac p254 q254
            cases e254
            replace ah := (HB.out.cell (World.block_lt_of_cell? w _ ah)).trans ah
            replace p254 := eq_true p254
            replace q254 := eq_true q254
            go_wp2_with (first | ((with_reducible refine gtC 33 ?_); refine xCb 49 Tryd.func33 (version_May.calls k3 (rdOf ByteArray.empty ((rd_T58 l0 aa).f1) ac) true _ A33.out) fun w47 hb => ?_; replace ab := am (bB ab.out hb); replace HB := am (sTx HB.out hb)))
            go_roundg k3
            case measure => have := HK1.out; have := HJ4.out; have := HK3.out; omega
            case rel => exact ⟨(wrap64 (ac + 1)), rfG, H', ⟨by have := HK1.out; have := HJ4.out; have := HK3.out; omega⟩, ⟨bT ab.out⟩, ⟨eTx HB.out⟩⟩
          ·obtain rfl := smI H
           have p254 : 0 ≤ (ac : Int) := of_decide_eq_true rfA
           have q254 : ac < (((rd_T58 l0 aa).f1).length : Int) := of_decide_eq_true rfA
           obtain ⟨ad254, e254, ah⟩ := Kd.at_string au.out ac p254 q254
           cases e254
           replace ah := (HB.out.cell (World.block_lt_of_cell? w _ ah)).trans ah
           replace p254 := eq_true p254
           replace q254 := eq_true q254
           go_wp2_with (first | ((with_reducible refine gtC 33 ?_); refine xCb 49 Tryd.func33 (version_May.calls k3 (rdOf ByteArray.empty ((rd_T58 l0 aa).f1) ac) false _ A33.out) fun w48 hb => ?_; replace ab := am (bB ab.out hb); replace HB := am (sTx HB.out hb)))
           go_ret
           exact ⟨rfF, eTx HB.out⟩
         ·have bb := decide_eq_false c30
          clear c30
          have H' := Aside0.mk H
          clear H
          go_wp2
          go_roundg k3
          case measure => have := HK1.out; have := HJ4.out; have := HK3.out; omega
          case rel => exact ⟨(wrap64 (aa + 1)), rfG, H', ⟨by have := HK1.out; have := HJ4.out; have := HK3.out; omega⟩, ⟨eTx HB.out⟩⟩
   ·have bv := decide_eq_false c2
    clear c2
    obtain rfl := smI H
    go_wp2
    go_ret
    exact ⟨rfF, eTx HB.out⟩

/-! ### tally_Best: function 28 -/
def tally_Best.j0 : Nat → List (S58) → ByteArray → Bool → Option (ByteArray × Int)
 | 0, _, _, _ => none
 | k + 1, x0, x1, x15 => if x15 = true then (some ((⟨#[]⟩ : ByteArray), 1)) else ((tally_find.f x0 x1).bind fun bt260 => (if bt260.2 = true then (if 0 ≤ bt260.1 then (if bt260.1 < (x0.length : Int) then (if 0 ≤ (wrap64 ((((rd_T58 x0 bt260.1).f1).length : Int) - 1)) then (if (wrap64 ((((rd_T58 x0 bt260.1).f1).length : Int) - 1)) < (((rd_T58 x0 bt260.1).f1).length : Int) then (some (rdOf ByteArray.empty ((rd_T58 x0 bt260.1).f1) (wrap64 ((((rd_T58 x0 bt260.1).f1).length : Int) - 1)), 0)) else (none)) else (none)) else (none)) else (none)) else (some ((⟨#[]⟩ : ByteArray), 2))))
def tally_Best.f (k : Nat) (l0 : List (S58)) (a1 : ByteArray) : Option (ByteArray × Int) := (tally_Check.f k l0).bind fun aw => (if aw = 0 then ((path_May.f k a1).bind fun aD => (tally_Best.j0 k l0 a1 (!aD))) else (tally_Best.j0 k l0 a1 true))
theorem tally_Best.mono_l : ∀ k, (∀ y0 y1 y2, LeO (tally_Best.j0 k y0 y1 y2) (tally_Best.j0 (k + 1) y0 y1 y2))
 | 0 => fun _ _ _ r h => by simp [tally_Best.j0] at h
 | k + 1 => by
  have ih0 := tally_Best.mono_l k
  ·intro y0 y1 y2
   unfold tally_Best.j0
   repeat' first | (with_reducible first | apply ih0 | apply path_May.mono | apply tally_Check.mono | apply LeO.refl | apply LeO.none | apply LeO.ite | refine LeO.bind ?_ (fun _ => ?_)) | apply ih0 | apply path_May.mono | apply tally_Check.mono | exact LeO.none _ | refine LeO.ite ?_ ?_ | refine LeO.bind ?_ (fun _ => ?_)
theorem tally_Best.mono : ∀ a0 a1 k, LeO (tally_Best.f k a0 a1) (tally_Best.f (k + 1) a0 a1) := by
 intro a0 a1 k
 have ih0 := tally_Best.mono_l k
 unfold tally_Best.f
 repeat' first | (with_reducible first | apply ih0 | apply path_May.mono | apply tally_Check.mono | apply LeO.refl | apply LeO.none | apply LeO.ite | refine LeO.bind ?_ (fun _ => ?_)) | apply ih0 | apply path_May.mono | apply tally_Check.mono | exact LeO.none _ | refine LeO.ite ?_ ?_ | refine LeO.bind ?_ (fun _ => ?_)
theorem tally_Best.calls (k : Nat) (A0 : Option Addr) (c0 : Nat) (l0 : List (S58)) (a1 : ByteArray) (r1 : ByteArray) (r2 : Int) (w : World) (hr0 : Kd.C k58 w A0 l0.length l0) (hc0 : l0.length ≤ c0) (h : tally_Best.f k l0 a1 = some (r1, r2)) :
  Calls Tryd.prog 28 #[.slice A0 l0.length c0, .string a1] w fun e w' => e = .returned (.tuple #[.string r1, .int .i64 r2]) ∧ Below w.heap.size w w' := by
 have HR0 := Aside0.mk hr0
 have HC0 := Aside0.mk hc0
 clear hr0 hc0
 have HB := am (Below.refl w.heap.size w)
 unfold tally_Best.f at h; have H := h; clear h
 have HC3 := Aside0.mk H
 clear H
 go_enter Tryd.func28, Tryd.ntmps28
 go_upto_region 1 with (fail)
 repeat (go_quiet (fail); go_upto_region 1 with (fail))
 go_cut [15] (fun v15 wc => ∃ (kq : Nat) (aK : Bool), v15 = .bool aK ∧ Aside0 (tally_Best.j0 kq l0 a1 aK = some (r1, r2)) ∧ Aside0 (kq ≤ k) ∧ Aside0 (Below w.heap.size w wc))
 case first =>
  have H := HC3.out
  clear HC3
  replace H := bnd H; obtain ⟨aw, A4, H⟩ := H
  replace H := ifP H; rcases H with ⟨c5, H⟩ | ⟨c5, H⟩
  ·have aO := beq_iff_eq.mpr c5
   have bh := bne_eq_false_iff_eq.mpr c5
   clear c5
   (first | rw [aO] | (simp only [i64_w, i32_w]; rw [aO]) | skip)
   replace H := bnd H; obtain ⟨aD, A6, H⟩ := H
   have H' := Aside0.mk H
   clear H
   go_wp2_with (first | (go_at_call 42; (with_reducible refine (tally_Check.calls k _ _ l0 aw _ (cW (Kd.C_below HR0.out HB.out)) HC0.out A4.out).mono ?_); rintro e w7 ⟨rfl, hb⟩; replace HB := am (sTx HB.out hb)) | (go_at_call 21; (with_reducible refine (path_May.calls k a1 aD _ A6.out).mono ?_); rintro e w8 ⟨rfl, hb⟩; replace HB := am (sTx HB.out hb)))
   repeat (go_quiet (first | (go_at_call 42; (with_reducible refine (tally_Check.calls k _ _ l0 aw _ (cW (Kd.C_below HR0.out HB.out)) HC0.out A4.out).mono ?_); rintro e w7 ⟨rfl, hb⟩; replace HB := am (sTx HB.out hb)) | (go_at_call 21; (with_reducible refine (path_May.calls k a1 aD _ A6.out).mono ?_); rintro e w8 ⟨rfl, hb⟩; replace HB := am (sTx HB.out hb))); try go_wp2_with (first | (go_at_call 42; (with_reducible refine (tally_Check.calls k _ _ l0 aw _ (cW (Kd.C_below HR0.out HB.out)) HC0.out A4.out).mono ?_); rintro e w7 ⟨rfl, hb⟩; replace HB := am (sTx HB.out hb)) | (go_at_call 21; (with_reducible refine (path_May.calls k a1 aD _ A6.out).mono ?_); rintro e w8 ⟨rfl, hb⟩; replace HB := am (sTx HB.out hb))))
   go_meet
   case rel => exact ⟨_, (!aD), rfG, H', ⟨rfO⟩, ⟨eTx HB.out⟩⟩
  ·have aO := beq_eq_false_iff_ne.mpr c5
   have bh := bne_iff_ne.mpr c5
   (first | rw [aO] | (simp only [i64_w, i32_w]; rw [aO]) | skip)
   have H' := Aside0.mk H
   clear H
   go_wp2_with (first | (go_at_call 42; (with_reducible refine (tally_Check.calls k _ _ l0 aw _ (cW (Kd.C_below HR0.out HB.out)) HC0.out A4.out).mono ?_); rintro e w9 ⟨rfl, hb⟩; replace HB := am (sTx HB.out hb)))
   repeat (go_quiet (first | (go_at_call 42; (with_reducible refine (tally_Check.calls k _ _ l0 aw _ (cW (Kd.C_below HR0.out HB.out)) HC0.out A4.out).mono ?_); rintro e w9 ⟨rfl, hb⟩; replace HB := am (sTx HB.out hb))); try go_wp2_with (first | (go_at_call 42; (with_reducible refine (tally_Check.calls k _ _ l0 aw _ (cW (Kd.C_below HR0.out HB.out)) HC0.out A4.out).mono ?_); rintro e w9 ⟨rfl, hb⟩; replace HB := am (sTx HB.out hb))))
   go_meet
   case rel => exact ⟨_, (true), rfG, H', ⟨rfO⟩, ⟨eTx HB.out⟩⟩
 case rest =>
  clear HC3
  obtain ⟨kq, aK, rfl, HA, HJ2, HB⟩ := hcut
  cases kq with
  | zero => exact absurd HA.out (by simp [tally_Best.j0])
  | succ kj2 =>
   have H := HA.out
   clear HA
   simp only [tally_Best.j0] at H
   replace H := ifB H; rcases H with ⟨rfl, H⟩ | ⟨rfl, H⟩
   ·replace H := prB H; obtain ⟨rfl, rfl⟩ := H
    go_wp2
    repeat (go_quiet (fail); try go_wp2)
    go_ret2
    exact ⟨rfF, eTx HB.out⟩
   ·replace H := bnd H; obtain ⟨⟨af, bi⟩, A11, H⟩ := H
    (try dsimp only at H)
    replace H := ifB H; rcases H with ⟨rfl, H⟩ | ⟨rfl, H⟩
    ·replace H := ifN H; obtain ⟨c13, H⟩ := H
     have bL := decide_eq_true c13
     clear c13
     replace H := ifN H; obtain ⟨c14, H⟩ := H
     have aJ := decide_eq_true c14
     clear c14
     obtain ⟨ak, ar⟩ : ∃ j_ : Int, (wrap64 ((((rd_T58 l0 af).f1).length : Int) - 1)) = j_ := ⟨_, rfl⟩
     replace H : (if 0 ≤ (ak) then (if (ak) < (((rd_T58 l0 af).f1).length : Int) then (some (rdOf ByteArray.empty ((rd_T58 l0 af).f1) (ak), 0)) else (none)) else (none)) = some (r1, r2) := by first | (rw [ar] at H; exact H) | (simp only [ar] at H ⊢; exact H)
     (try rw [ar] at A11)
     have a4 : (IntKind.i64.wrap ((((rd_T58 l0 af).f1).length : Int) - 1)) = ak := (i64_w _).trans ar
     replace H := ifN H; obtain ⟨c16, H⟩ := H
     have a8 := decide_eq_true c16
     clear c16
     replace H := ifN H; obtain ⟨c17, H⟩ := H
     have a9 := decide_eq_true c17
     clear c17
     replace H := prB H; obtain ⟨rfl, rfl⟩ := H
     go_wp2_with (first | (go_at_call 43; (with_reducible refine (tally_find.calls _ _ l0 a1 af true _ (cW (Kd.C_below HR0.out HB.out)) HC0.out A11.out).mono ?_); rintro e w18 ⟨rfl, hb⟩; replace HB := am (sTx HB.out hb); have p262 : 0 ≤ (af : Int) := of_decide_eq_true rfA; have q262 : af < (l0.length : Int) := of_decide_eq_true rfA; obtain ⟨ad262, aP, aQ, e262, al, ai, hl262_1, hi262_1⟩ := at_T58 HR0.out af p262 q262; cases e262; replace al := (HB.out.cell (World.block_lt_of_cell? w _ al)).trans al; replace ai := (HB.out.cell (World.block_lt_of_cell? w _ ai)).trans ai; have aA := Aside0.mk hi262_1; have aL := Aside0.mk hl262_1; clear hi262_1 hl262_1; replace p262 := eq_true p262; replace q262 := eq_true q262; have p263 : 0 ≤ (af : Int) := of_decide_eq_true rfA; have q263 : af < (l0.length : Int) := of_decide_eq_true rfA; obtain ⟨ad263, aR, aU, e263, an, aj, hl263_1, hi263_1⟩ := at_T58 HR0.out af p263 q263; obtain rfl : ad262 = ad263 := (by injection e263); replace an := (HB.out.cell (World.block_lt_of_cell? w _ an)).trans an; replace aj := (HB.out.cell (World.block_lt_of_cell? w _ aj)).trans aj; have aM := Aside0.mk hi263_1; have aN := Aside0.mk hl263_1; clear hi263_1 hl263_1; replace p263 := eq_true p263; replace q263 := eq_true q263; have ea_ := Option.some.inj (ai.symm.trans aj); injection ea_ with ea_ en_ ec_; subst ea_; subst ec_; clear en_; have p264 : 0 ≤ ((ak) : Int) := of_decide_eq_true rfA; have q264 : (ak) < (((rd_T58 l0 af).f1).length : Int) := of_decide_eq_true rfA; obtain ⟨ad264, e264, ao⟩ := Kd.at_string aA.out (ak) p264 q264; cases e264; replace ao := (HB.out.cell (World.block_lt_of_cell? w _ ao)).trans ao; replace p264 := eq_true p264; replace q264 := eq_true q264))
     repeat (go_quiet (first | (go_at_call 43; (with_reducible refine (tally_find.calls _ _ l0 a1 af true _ (cW (Kd.C_below HR0.out HB.out)) HC0.out A11.out).mono ?_); rintro e w18 ⟨rfl, hb⟩; replace HB := am (sTx HB.out hb); have p262 : 0 ≤ (af : Int) := of_decide_eq_true rfA; have q262 : af < (l0.length : Int) := of_decide_eq_true rfA; obtain ⟨ad262, aP, aQ, e262, al, ai, hl262_1, hi262_1⟩ := at_T58 HR0.out af p262 q262; cases e262; replace al := (HB.out.cell (World.block_lt_of_cell? w _ al)).trans al; replace ai := (HB.out.cell (World.block_lt_of_cell? w _ ai)).trans ai; have aA := Aside0.mk hi262_1; have aL := Aside0.mk hl262_1; clear hi262_1 hl262_1; replace p262 := eq_true p262; replace q262 := eq_true q262; have p263 : 0 ≤ (af : Int) := of_decide_eq_true rfA; have q263 : af < (l0.length : Int) := of_decide_eq_true rfA; obtain ⟨ad263, aR, aU, e263, an, aj, hl263_1, hi263_1⟩ := at_T58 HR0.out af p263 q263; obtain rfl : ad262 = ad263 := (by injection e263); replace an := (HB.out.cell (World.block_lt_of_cell? w _ an)).trans an; replace aj := (HB.out.cell (World.block_lt_of_cell? w _ aj)).trans aj; have aM := Aside0.mk hi263_1; have aN := Aside0.mk hl263_1; clear hi263_1 hl263_1; replace p263 := eq_true p263; replace q263 := eq_true q263; have ea_ := Option.some.inj (ai.symm.trans aj); injection ea_ with ea_ en_ ec_; subst ea_; subst ec_; clear en_; have p264 : 0 ≤ ((ak) : Int) := of_decide_eq_true rfA; have q264 : (ak) < (((rd_T58 l0 af).f1).length : Int) := of_decide_eq_true rfA; obtain ⟨ad264, e264, ao⟩ := Kd.at_string aA.out (ak) p264 q264; cases e264; replace ao := (HB.out.cell (World.block_lt_of_cell? w _ ao)).trans ao; replace p264 := eq_true p264; replace q264 := eq_true q264)); try go_wp2_with (first | (go_at_call 43; (with_reducible refine (tally_find.calls _ _ l0 a1 af true _ (cW (Kd.C_below HR0.out HB.out)) HC0.out A11.out).mono ?_); rintro e w18 ⟨rfl, hb⟩; replace HB := am (sTx HB.out hb); have p262 : 0 ≤ (af : Int) := of_decide_eq_true rfA; have q262 : af < (l0.length : Int) := of_decide_eq_true rfA; obtain ⟨ad262, aP, aQ, e262, al, ai, hl262_1, hi262_1⟩ := at_T58 HR0.out af p262 q262; cases e262; replace al := (HB.out.cell (World.block_lt_of_cell? w _ al)).trans al; replace ai := (HB.out.cell (World.block_lt_of_cell? w _ ai)).trans ai; have aA := Aside0.mk hi262_1; have aL := Aside0.mk hl262_1; clear hi262_1 hl262_1; replace p262 := eq_true p262; replace q262 := eq_true q262; have p263 : 0 ≤ (af : Int) := of_decide_eq_true rfA; have q263 : af < (l0.length : Int) := of_decide_eq_true rfA; obtain ⟨ad263, aR, aU, e263, an, aj, hl263_1, hi263_1⟩ := at_T58 HR0.out af p263 q263; obtain rfl : ad262 = ad263 := (by injection e263); replace an := (HB.out.cell (World.block_lt_of_cell? w _ an)).trans an; replace aj := (HB.out.cell (World.block_lt_of_cell? w _ aj)).trans aj; have aM := Aside0.mk hi263_1; have aN := Aside0.mk hl263_1; clear hi263_1 hl263_1; replace p263 := eq_true p263; replace q263 := eq_true q263; have ea_ := Option.some.inj (ai.symm.trans aj); injection ea_ with ea_ en_ ec_; subst ea_; subst ec_; clear en_; have p264 : 0 ≤ ((ak) : Int) := of_decide_eq_true rfA; have q264 : (ak) < (((rd_T58 l0 af).f1).length : Int) := of_decide_eq_true rfA; obtain ⟨ad264, e264, ao⟩ := Kd.at_string aA.out (ak) p264 q264; cases e264; replace ao := (HB.out.cell (World.block_lt_of_cell? w _ ao)).trans ao; replace p264 := eq_true p264; replace q264 := eq_true q264)))
     go_ret2
     exact ⟨by first | rfl | (simp [errW_none, errW_some] <;> rfl) | (simp only [← ar]; first | rfl | (simp [errW_none, errW_some] <;> rfl)) | (simp [*, errW_none, errW_some] <;> rfl), eTx HB.out⟩
    ·replace H := prB H; obtain ⟨rfl, rfl⟩ := H
     go_wp2_with (first | (go_at_call 43; (with_reducible refine (tally_find.calls _ _ l0 a1 af false _ (cW (Kd.C_below HR0.out HB.out)) HC0.out A11.out).mono ?_); rintro e w19 ⟨rfl, hb⟩; replace HB := am (sTx HB.out hb)))
     repeat (go_quiet (first | (go_at_call 43; (with_reducible refine (tally_find.calls _ _ l0 a1 af false _ (cW (Kd.C_below HR0.out HB.out)) HC0.out A11.out).mono ?_); rintro e w19 ⟨rfl, hb⟩; replace HB := am (sTx HB.out hb))); try go_wp2_with (first | (go_at_call 43; (with_reducible refine (tally_find.calls _ _ l0 a1 af false _ (cW (Kd.C_below HR0.out HB.out)) HC0.out A11.out).mono ?_); rintro e w19 ⟨rfl, hb⟩; replace HB := am (sTx HB.out hb))))
     go_ret2
     exact ⟨rfF, eTx HB.out⟩

end Go.Proofs.YtknmfmedklfepaaDoor.P
