-- half the indentation
import Derived.Test.YtknmfmedklfepaaGreatDoorSqz
import Derived.Test.YtknmfmedklfepaaGreatDoorP0
import Derived.Test.YtknmfmedklfepaaGreatDoorP9
import Derived.Test.YtknmfmedklfepaaGreatDoorP17
import Derived.Test.YtknmfmedklfepaaGreatDoorP19
namespace Go.Proofs.YtknmfmedklfepaaGreatDoor.P
open Go.RowKit Go.Proofs.YtknmfmedklfepaaGreatDoorW.PrintWords Go.Proofs.YtknmfmedklfepaaGreatDoorW.PrintLast Go.Proofs.YtknmfmedklfepaaGreatDoorW.PrintMore
attribute [local go_sem] max2_int min2_int max_two min_two max_three min_three max_four min_four
set_option linter.unusedVariables false
set_option linter.unusedSimpArgs false
set_option maxHeartbeats 8000000
set_option maxRecDepth 100000

/-! ### tally_order: function 57 -/
def tally_order.f (k : Nat) (a0 : ByteArray) (a1 : ByteArray) : Option (Int) := (version_Cmp.f k a0 a1).bind fun bt221 => (some bt221.1)
theorem tally_order.mono : ∀ a0 a1 k, LeO (tally_order.f k a0 a1) (tally_order.f (k + 1) a0 a1) := by
 intro a0 a1 k
 unfold tally_order.f
 repeat' first | (with_reducible first | apply version_Cmp.mono | apply LeO.refl | apply LeO.none | apply LeO.ite | refine LeO.bind ?_ (fun _ => ?_)) | apply version_Cmp.mono | exact LeO.none _ | refine LeO.ite ?_ ?_ | refine LeO.bind ?_ (fun _ => ?_)
theorem tally_order.calls (k : Nat) (a0 : ByteArray) (a1 : ByteArray) (r : Int) (w : World) (h : tally_order.f k a0 a1 = some r) :
  Calls Tryz.prog 57 #[.string a0, .string a1] w fun e w' => e = .returned (.int .i64 r) ∧ Below w.heap.size w w' := by
 have HB := am (Below.refl w.heap.size w)
 unfold tally_order.f at h; have H := h; clear h
 replace H := bnd H; obtain ⟨⟨aN, a_⟩, A3, H⟩ := H
 (try dsimp only at H)
 obtain rfl := smI H
 go_enter Tryz.func57, Tryz.ntmps57
 go_wp2_with (first | ((with_reducible refine gtC 41 ?_); refine xCb 10 Tryz.func41 (version_Cmp.calls k a0 a1 aN a_ _ A3.out) fun w4 hb => ?_; replace HB := am (sTx HB.out hb)))
 go_ret
 exact ⟨rfF, eTx HB.out⟩

/-! ### version_May: function 77 -/
def version_May.f (k : Nat) (a0 : ByteArray) : Option (Bool) := (version_Split.f k a0).bind fun bt223 => (some (bt223.2.2.2.2 == 0))
theorem version_May.mono : ∀ a0 k, LeO (version_May.f k a0) (version_May.f (k + 1) a0) := by
 intro a0 k
 unfold version_May.f
 repeat' first | (with_reducible first | apply version_Split.mono | apply LeO.refl | apply LeO.none | apply LeO.ite | refine LeO.bind ?_ (fun _ => ?_)) | apply version_Split.mono | exact LeO.none _ | refine LeO.ite ?_ ?_ | refine LeO.bind ?_ (fun _ => ?_)
theorem version_May.calls (k : Nat) (a0 : ByteArray) (r : Bool) (w : World) (h : version_May.f k a0 = some r) :
  Calls Tryz.prog 77 #[.string a0] w fun e w' => e = .returned (.bool r) ∧ Below w.heap.size w w' := by
 have hu98 := Tryz.underlying98
 have HB := am (Below.refl w.heap.size w)
 unfold version_May.f at h; have H := h; clear h
 replace H := bnd H; obtain ⟨⟨bb, bc, be, bf, aO⟩, A2, H⟩ := H
 (try dsimp only at H)
 obtain rfl := smI H
 go_enter Tryz.func77, Tryz.ntmps77
 go_wp2_with (first | ((with_reducible refine gtC 65 ?_); refine xCl 7 Tryz.func65 (version_Split.calls k a0 bb bc be bf aO _ A2.out) ?_; rintro e w3 ⟨bK, rfl, ho0, hb⟩; refine ⟨_, rfl, ?_⟩; have aC := am (Kd.R_lower ho0 (below_size (eTx HB.out))); replace HB := am (sTx HB.out hb)) | ((with_reducible refine gtD 3 ?_); refine xBx 3 98 #[.string (⟨#[]⟩ : ByteArray), .string (⟨#[]⟩ : ByteArray), .string (⟨#[]⟩ : ByteArray), .slice none 0 0] ?_; intro aA hg w4 hbox hb; replace aC := am (rB aC.out hb); have aq := am (hbox); have bw := am ((gTx hg HB.out)); have bx := am ((gTx hg HB.out)); replace HB := am (sTx HB.out hb); clear hb hbox hg; obtain ⟨bg, bh, bi, bj, bk, bl, bm, bo⟩ := bxD aq; obtain ⟨Ao6, co6, eo6⟩ := Kd.R_slice aC.out; subst eo6))
 go_ret
 exact ⟨rfF, eTx HB.out⟩

/-! ### tally_Check: function 51 -/
mutual
def tally_Check.l0 : Nat → List (S63) → List (S63) → Int → Int → Option (Int)
 | 0, _, _, _, _ => none
 | k + 1, x0, x7, x8, x9 => if x9 < x8 then (if 0 ≤ x9 then (if x9 < (x7.length : Int) then ((path_May.f k ((rd_T63 x7 x9).f0)).bind fun aE => (if aE = true then (if (((rd_T63 x7 x9).f1).length : Int) = 0 then (tally_Check.j1 k x0 x7 x8 x9 true ((rd_T63 x7 x9).f0) ((rd_T63 x7 x9).f1)) else (if x9 > 0 then (if 0 ≤ (wrap64 (x9 - 1)) then (if (wrap64 (x9 - 1)) < (x0.length : Int) then ((octet_Cmp.f ((rd_T63 x0 (wrap64 (x9 - 1))).f0) ((rd_T63 x7 x9).f0)).bind fun au => (tally_Check.j1 k x0 x7 x8 x9 (decide (au ≥ 0)) ((rd_T63 x7 x9).f0) ((rd_T63 x7 x9).f1))) else (none)) else (none)) else (tally_Check.j1 k x0 x7 x8 x9 false ((rd_T63 x7 x9).f0) ((rd_T63 x7 x9).f1)))) else (tally_Check.j1 k x0 x7 x8 x9 true ((rd_T63 x7 x9).f0) ((rd_T63 x7 x9).f1)))) else (none)) else (none)) else (some 0)
def tally_Check.j1 : Nat → List (S63) → List (S63) → Int → Int → Bool → ByteArray → List ByteArray → Option (Int)
 | 0, _, _, _, _, _, _, _ => none
 | k + 1, x0, x7, x8, x9, x39, ar, ah => if x39 = true then (some 1) else (tally_Check.l1 k x0 x7 x8 x9 ah (ah.length : Int) 0 ar ah)
def tally_Check.l1 : Nat → List (S63) → List (S63) → Int → Int → List ByteArray → Int → Int → ByteArray → List ByteArray → Option (Int)
 | 0, _, _, _, _, _, _, _, _, _ => none
 | k + 1, x0, x7, x8, x9, x41, x42, x43, ar, ah => if x43 < x42 then (if 0 ≤ x43 then (if x43 < (x41.length : Int) then ((version_May.f k (rdOf ByteArray.empty x41 x43)).bind fun aF => (if aF = true then (if x43 > 0 then (if 0 ≤ (wrap64 (x43 - 1)) then (if (wrap64 (x43 - 1)) < (ah.length : Int) then ((tally_order.f k (rdOf ByteArray.empty ah (wrap64 (x43 - 1))) (rdOf ByteArray.empty x41 x43)).bind fun an => (if an ≥ 0 then (some 1) else (tally_Check.l1 k x0 x7 x8 x9 x41 x42 (wrap64 (x43 + 1)) ar ah))) else (none)) else (none)) else (tally_Check.l1 k x0 x7 x8 x9 x41 x42 (wrap64 (x43 + 1)) ar ah)) else (some 1))) else (none)) else (none)) else (tally_Check.l0 k x0 x7 x8 (wrap64 (x9 + 1)))
end
def tally_Check.f (k : Nat) (l0 : List (S63)) : Option (Int) := tally_Check.l0 k l0 l0 (l0.length : Int) 0
theorem tally_Check.mono_l : ∀ k, (∀ y0 y1 y2 y3, LeO (tally_Check.l0 k y0 y1 y2 y3) (tally_Check.l0 (k + 1) y0 y1 y2 y3)) ∧ (∀ y0 y1 y2 y3 y4 y5 y6, LeO (tally_Check.j1 k y0 y1 y2 y3 y4 y5 y6) (tally_Check.j1 (k + 1) y0 y1 y2 y3 y4 y5 y6)) ∧ (∀ y0 y1 y2 y3 y4 y5 y6 y7 y8, LeO (tally_Check.l1 k y0 y1 y2 y3 y4 y5 y6 y7 y8) (tally_Check.l1 (k + 1) y0 y1 y2 y3 y4 y5 y6 y7 y8))
 | 0 => ⟨fun _ _ _ _ r h => by simp [tally_Check.l0] at h, fun _ _ _ _ _ _ _ r h => by simp [tally_Check.j1] at h, fun _ _ _ _ _ _ _ _ _ r h => by simp [tally_Check.l1] at h⟩
 | k + 1 => by
  obtain ⟨ih0, ih1, ih2⟩ := tally_Check.mono_l k
  refine ⟨?_, ?_, ?_⟩
  ·intro y0 y1 y2 y3
   unfold tally_Check.l0
   repeat' first | (with_reducible first | apply ih0 | apply ih1 | apply ih2 | apply path_May.mono | apply tally_order.mono | apply version_May.mono | apply LeO.refl | apply LeO.none | apply LeO.ite | refine LeO.bind ?_ (fun _ => ?_)) | apply ih0 | apply ih1 | apply ih2 | apply path_May.mono | apply tally_order.mono | apply version_May.mono | exact LeO.none _ | refine LeO.ite ?_ ?_ | refine LeO.bind ?_ (fun _ => ?_)
  ·intro y0 y1 y2 y3 y4 y5 y6
   unfold tally_Check.j1
   repeat' first | (with_reducible first | apply ih0 | apply ih1 | apply ih2 | apply path_May.mono | apply tally_order.mono | apply version_May.mono | apply LeO.refl | apply LeO.none | apply LeO.ite | refine LeO.bind ?_ (fun _ => ?_)) | apply ih0 | apply ih1 | apply ih2 | apply path_May.mono | apply tally_order.mono | apply version_May.mono | exact LeO.none _ | refine LeO.ite ?_ ?_ | refine LeO.bind ?_ (fun _ => ?_)
  ·intro y0 y1 y2 y3 y4 y5 y6 y7 y8
   unfold tally_Check.l1
   repeat' first | (with_reducible first | apply ih0 | apply ih1 | apply ih2 | apply path_May.mono | apply tally_order.mono | apply version_May.mono | apply LeO.refl | apply LeO.none | apply LeO.ite | refine LeO.bind ?_ (fun _ => ?_)) | apply ih0 | apply ih1 | apply ih2 | apply path_May.mono | apply tally_order.mono | apply version_May.mono | exact LeO.none _ | refine LeO.ite ?_ ?_ | refine LeO.bind ?_ (fun _ => ?_)
theorem tally_Check.mono : ∀ a0 k, LeO (tally_Check.f k a0) (tally_Check.f (k + 1) a0) := by
 intro a0 k
 obtain ⟨ih0, ih1, ih2⟩ := tally_Check.mono_l k
 unfold tally_Check.f
 repeat' first | (with_reducible first | apply ih0 | apply ih1 | apply ih2 | apply path_May.mono | apply tally_order.mono | apply version_May.mono | apply LeO.refl | apply LeO.none | apply LeO.ite | refine LeO.bind ?_ (fun _ => ?_)) | apply ih0 | apply ih1 | apply ih2 | apply path_May.mono | apply tally_order.mono | apply version_May.mono | exact LeO.none _ | refine LeO.ite ?_ ?_ | refine LeO.bind ?_ (fun _ => ?_)
def tally_Check.T4 : Bool × List (List Nat × List Nat) := (true, [([], []), ([0], [0]), ([1], [1]), ([2], [2]), ([3, 2], [3]), ([4], [4]), ([5, 4], [4, 5]), ([6, 4], [4, 6]), ([7, 4], [4, 7]), ([4, 8], [4, 8]), ([9, 4], [9]), ([10], [10]), ([11, 10], [10, 11]), ([12, 10, 10], [10, 12]), ([13], [13]), ([13], [13]), ([15, 13], [13, 15]), ([14, 16, 13], [13, 14, 16]), ([17, 13], [13, 17]), ([18, 13], [13, 18]), ([13], [13]), ([20, 13], [13, 20]), ([19, 21, 13, 13], [13, 19, 21]), ([22, 13], [13, 22]), ([13, 23, 10], [10, 13, 23]), ([10, 24], [10, 24])])
def tally_Check.B4 : List Nat := [0, 1, 3, 7, 15, 31, 63, 127, 255, 511, 1023, 2047, 4095, 8191, 16383, 16383, 49151, 131071, 262143, 524287, 16383, 1064959, 4194303, 8388607, 16777215, 33554431]
theorem tally_Check.tab4 : rtab .any (opsOf Tryz.f51 4) = tally_Check.T4 := by kernel_rfl
theorem tally_Check.bits4 : waitsOk tally_Check.T4.2 tally_Check.B4 = true := by kernel_rfl
theorem tally_Check.calls (k : Nat) (A0 : Option Addr) (c0 : Nat) (l0 : List (S63)) (r : Int) (w : World) (hr0 : Kd.C k63 w A0 l0.length l0) (hc0 : l0.length ≤ c0) (h : tally_Check.f k l0 = some r) :
  Calls Tryz.prog 51 #[.slice A0 l0.length c0] w fun e w' => e = .returned (.int .i64 r) ∧ Below w.heap.size w w' := by
 have hu63 := Tryz.underlying63
 have HR0 := Aside0.mk hr0
 have HC0 := Aside0.mk hc0
 clear hr0 hc0
 have HB := am (Below.refl w.heap.size w)
 unfold tally_Check.f at h; have H := h; clear h
 have H' := Aside0.mk H
 clear H
 go_enter Tryz.func51, Tryz.ntmps51
 go_wp2
 go_loopg [9] k (fun kq v9 w' => ∃ (aa : Int), v9 = .int .i64 aa ∧ Aside0 (tally_Check.l0 kq l0 l0 (l0.length : Int) aa = some r) ∧ Aside0 (kq ≤ k) ∧ Aside0 (Below w.heap.size w w'))
 case atStart => exact ⟨(0), rfG, H', ⟨Nat.le_refl _⟩, ⟨eTx HB.out⟩⟩
 case round =>
  clear H'
  obtain ⟨aa, rfl, HA, HK1, HB⟩ := hrel
  cases gk with
  | zero => exact absurd HA.out (by simp [tally_Check.l0])
  | succ k1 =>
   have H := HA.out
   clear HA
   simp only [tally_Check.l0] at H
   replace H := ifP H; rcases H with ⟨c2, H⟩ | ⟨c2, H⟩
   ·have bp := decide_eq_true c2
    clear c2
    replace H := ifN H; obtain ⟨c3, H⟩ := H
    have bL := decide_eq_true c3
    clear c3
    replace H := ifN H; obtain ⟨c4, H⟩ := H
    have bM := decide_eq_true c4
    clear c4
    have HC5 := Aside0.mk H
    clear H
    have p231 : 0 ≤ (aa : Int) := of_decide_eq_true rfA
    have q231 : aa < (l0.length : Int) := of_decide_eq_true rfA
    obtain ⟨ad231, af, ae, e231, av, aw, hl231_1, hi231_1⟩ := at_T63 HR0.out aa p231 q231
    cases e231
    replace av := (HB.out.cell (World.block_lt_of_cell? w _ av)).trans av
    replace aw := (HB.out.cell (World.block_lt_of_cell? w _ aw)).trans aw
    have ak := Aside0.mk hi231_1
    have aY := Aside0.mk hl231_1
    clear hi231_1 hl231_1
    replace p231 := eq_true p231
    replace q231 := eq_true q231
    go_upto_region 4 with (first | ((with_reducible refine gtD 4 ?_); (try (refine gate_guard (by rfl) ?_; dsimp only)); refine xBx 4 63 #[.string (⟨#[]⟩ : ByteArray), .slice none 0 0] ?_; intro ad hg w6 hbox hb; have ab := am (hbox); have bz := am ((gTx hg HB.out)); have bC := am ((gTx hg HB.out)); replace HB := am (sTx HB.out hb); clear hb hbox hg; obtain ⟨bq, br, bs, bt⟩ := bxB ab))
    (try simp only [Act.put, List.setIfInBounds_toArray, List.set_cons_zero, List.set_cons_succ])
    go_cut [39] (fun v39 wc => ∃ (kq : Nat) (aB : Bool), v39 = .bool aB ∧ Aside0 (tally_Check.j1 kq l0 l0 (l0.length : Int) aa aB ((rd_T63 l0 aa).f0) ((rd_T63 l0 aa).f1) = some r) ∧ Aside0 (kq ≤ k1) ∧ Aside0 (wc.heap[ad]? = some (.cells #[.string ((rd_T63 l0 aa).f0), (.slice af ((rd_T63 l0 aa).f1).length ae)] 63 (0, 0))) ∧ Aside0 (Below w.heap.size w wc))
    case first =>
     have H := HC5.out
     clear HC5
     replace H := bnd H; obtain ⟨aE, A8, H⟩ := H
     replace H := ifB H; rcases H with ⟨rfl, H⟩ | ⟨rfl, H⟩
     ·replace H := ifP H; rcases H with ⟨c10, H⟩ | ⟨c10, H⟩
      ·have ax := beq_iff_eq.mpr c10
       have aP := bne_eq_false_iff_eq.mpr c10
       clear c10
       (first | rw [ax] | (simp only [i64_w, i32_w]; rw [ax]) | skip)
       have H' := Aside0.mk H
       clear H
       try go_wp2
       obtain ⟨w11, hW_⟩ : ∃ W_, ((w6.setCell ⟨ad, 0, none⟩ (.string ((rd_T63 l0 aa).f0))).setCell ⟨ad, 1, none⟩ (.slice af ((rd_T63 l0 aa).f1).length ae)) = W_ := ⟨_, rfl⟩
       have n0_ : Aside0 (w11.heap[ad]? = some (.cells #[.string ((rd_T63 l0 aa).f0), .slice af ((rd_T63 l0 aa).f1).length ae] 63 (0, 0))) := ⟨by rw [← hW_]; exact kBk⟩
       have n1_ : Aside0 (Below w.heap.size w w11) := ⟨by rw [← hW_]; exact eTx HB.out⟩
       rw [hW_]
       clear hW_
       have ab := n0_
       have HB := n1_
       clear n0_ n1_
       replace ab := am (blk_drew ab.out)
       replace HB := am (below_drew1 HB.out)
       refine start_ (n := 26) (S := fun w' => w'.cell? ⟨ad, 0, none⟩ = some (.string ((rd_T63 l0 aa).f0)) ∧ w'.cell? ⟨ad, 1, none⟩ = some (.slice af ((rd_T63 l0 aa).f1).length ae)) (ds := []) (bA 26 0) rfK rfl rfK ⟨cT ab 0, cT ab 1⟩ (fun hHeld => ?_); refine with_tabW tally_Check.tab4 tally_Check.bits4 (fun HT_ HW_ => ?_)
       generalize w11.drew = w12 at ab HB hHeld ⊢
       refine pT 0 14 (bA 26 1) HT_.out ?_
       refine tT 1 15 (bA 26 3) HT_.out HW_.out hHeld ?_ (hy := by rintro w' ⟨s0, s1⟩; go_simp; with_reducible rfl)
       refine oT 2 (bA 26 7) HT_.out fun K hK => ?_
       refine gS Tryz.func32 #[.string ((rd_T63 l0 aa).f0)] ?_
       with_reducible refine (path_May.calls k1 ((rd_T63 l0 aa).f0) true _ A8.out).mono ?_
       rintro e w13 ⟨rfl, hb⟩
       refine ⟨_, rfl, ?_⟩
       replace ab := am (bB ab.out hb)
       replace HB := am (sTx HB.out hb)
       refine hK.out _ _ ⟨cT ab 0, cT ab 1⟩ (fun hHeld => ?_)
       clear hK K
       refine mN 16 ?_
       refine pT 3 17 (bA 26 15) HT_.out ?_
       refine pT 4 18 (bA 26 31) HT_.out ?_
       refine pT 5 19 (bA 26 63) HT_.out ?_
       refine tT 6 20 (bA 26 127) HT_.out HW_.out hHeld ?_ (hy := by rintro w' ⟨s0, s1⟩; go_simp; with_reducible rfl)
       refine pT 7 21 (bA 26 255) HT_.out ?_
       refine pT 8 22 (bA 26 511) HT_.out ?_
       refine pT 9 23 (bA 26 1023) HT_.out ?_
       refine pT 10 24 (bA 26 2047) HT_.out ?_
       refine pU 11 25 (bA 26 4095) HT_.out ?_
       refine pU 12 26 (bA 26 8191) HT_.out ?_
       refine pU 13 27 (bA 26 16383) HT_.out ?_
       refine pU 14 28 (bA 26 32767) HT_.out ?_
       refine pU 15 29 (bA 26 65535) HT_.out ?_
       refine pU 16 30 (bA 26 131071) HT_.out ?_
       refine pU 17 31 (bA 26 262143) HT_.out ?_
       refine pU 18 32 (bA 26 524287) HT_.out ?_
       refine pU 19 33 (bA 26 1048575) HT_.out ?_
       refine pU 20 34 (bA 26 2097151) HT_.out ?_
       refine pU 21 35 (bA 26 4194303) HT_.out ?_
       refine pU 22 36 (bA 26 8388607) HT_.out ?_
       refine pU 23 37 (bA 26 16777215) HT_.out ?_
       refine pU 24 38 (bA 26 33554431) HT_.out ?_
       refine pT 25 39 (bA 26 67108863) HT_.out ?_
       refine done_ (done_of HT_.out rfK) ?_
       try go_wp2
       go_meet
       case rel => exact ⟨_, (true), rfG, H', ⟨by have := HK1.out; first | omega | exact Nat.le_refl _⟩, ⟨bT ab.out⟩, ⟨eTx HB.out⟩⟩
      ·have ax := beq_eq_false_iff_ne.mpr c10
       have aP := bne_iff_ne.mpr c10
       have bD : ¬ (((rd_T63 l0 aa).f1) = []) := fun h_ => c10 (by rw [h_]; rfl)
       (first | rw [ax] | (simp only [i64_w, i32_w]; rw [ax]) | skip)
       replace H := ifP H; rcases H with ⟨c14, H⟩ | ⟨c14, H⟩
       ·have aD : decide (0 < aa) = true := decide_eq_true c14
        clear c14
        obtain ⟨aj, ay⟩ : ∃ j_ : Int, (wrap64 (aa - 1)) = j_ := ⟨_, rfl⟩
        replace H : (if 0 ≤ (aj) then (if (aj) < (l0.length : Int) then ((octet_Cmp.f ((rd_T63 l0 (aj)).f0) ((rd_T63 l0 aa).f0)).bind fun au => (tally_Check.j1 k1 l0 l0 (l0.length : Int) aa (decide (au ≥ 0)) ((rd_T63 l0 aa).f0) ((rd_T63 l0 aa).f1))) else (none)) else (none)) = some r := by first | (rw [ay] at H; exact H) | (simp only [ay] at H ⊢; exact H)
        (try rw [ay] at A8)
        have bu : (IntKind.i64.wrap (aa - 1)) = aj := (i64_w _).trans ay
        replace H := ifN H; obtain ⟨c16, H⟩ := H
        have bE := decide_eq_true c16
        clear c16
        replace H := ifN H; obtain ⟨c17, H⟩ := H
        have bF := decide_eq_true c17
        clear c17
        replace H := bnd H; obtain ⟨au, A18, H⟩ := H
        have H' := Aside0.mk H
        clear H
        try go_wp2
        obtain ⟨w19, hW_⟩ : ∃ W_, ((w6.setCell ⟨ad, 0, none⟩ (.string ((rd_T63 l0 aa).f0))).setCell ⟨ad, 1, none⟩ (.slice af ((rd_T63 l0 aa).f1).length ae)) = W_ := ⟨_, rfl⟩
        have n0_ : Aside0 (w19.heap[ad]? = some (.cells #[.string ((rd_T63 l0 aa).f0), .slice af ((rd_T63 l0 aa).f1).length ae] 63 (0, 0))) := ⟨by rw [← hW_]; exact kBk⟩
        have n1_ : Aside0 (Below w.heap.size w w19) := ⟨by rw [← hW_]; exact eTx HB.out⟩
        rw [hW_]
        clear hW_
        have ab := n0_
        have HB := n1_
        clear n0_ n1_
        replace ab := am (blk_drew ab.out)
        replace HB := am (below_drew1 HB.out)
        have p234 : 0 ≤ ((aj) : Int) := of_decide_eq_true rfA
        have q234 : (aj) < (l0.length : Int) := of_decide_eq_true rfA
        obtain ⟨ad234, aL, aM, e234, ao, ap, hl234_1, hi234_1⟩ := at_T63 HR0.out (aj) p234 q234
        have hw234_1 := ap
        have hw234_0 := ao
        obtain rfl : ad231 = ad234 := (by injection e234)
        replace ao := (HB.out.cell (World.block_lt_of_cell? w _ ao)).trans ao
        replace ap := (HB.out.cell (World.block_lt_of_cell? w _ ap)).trans ap
        have aG := Aside0.mk hi234_1
        have aZ := Aside0.mk hl234_1
        clear hi234_1 hl234_1
        replace p234 := eq_true p234
        replace q234 := eq_true q234
        refine start_ (n := 26) (S := fun w' => w'.cell? ⟨ad, 0, none⟩ = some (.string ((rd_T63 l0 aa).f0)) ∧ w'.cell? ⟨ad, 1, none⟩ = some (.slice af ((rd_T63 l0 aa).f1).length ae) ∧ w'.cell? (ad231.add (((aj)).toNat * 2)) = some (.string ((rd_T63 l0 (aj)).f0)) ∧ w'.cell? ⟨(ad231.add (((aj)).toNat * 2)).block, (ad231.add (((aj)).toNat * 2)).off + 1, none⟩ = some (.slice aL ((rd_T63 l0 (aj)).f1).length aM)) (ds := []) (bA 26 0) rfK rfl rfK ⟨cT ab 0, cT ab 1, ((HB.out.cell (World.block_lt_of_cell? w _ hw234_0)).trans hw234_0), ((HB.out.cell (World.block_lt_of_cell? w _ hw234_1)).trans hw234_1)⟩ (fun hHeld => ?_); refine with_tabW tally_Check.tab4 tally_Check.bits4 (fun HT_ HW_ => ?_)
        generalize w19.drew = w20 at ab HB aG ao ap hHeld ⊢
        refine pT 0 14 (bA 26 1) HT_.out ?_
        refine tT 1 15 (bA 26 3) HT_.out HW_.out hHeld ?_ (hy := by rintro w' ⟨s0, s1, s2, s3⟩; go_simp; with_reducible rfl)
        refine oT 2 (bA 26 7) HT_.out fun K hK => ?_
        refine gS Tryz.func32 #[.string ((rd_T63 l0 aa).f0)] ?_
        with_reducible refine (path_May.calls k1 ((rd_T63 l0 aa).f0) true _ A8.out).mono ?_
        rintro e w21 ⟨rfl, hb⟩
        refine ⟨_, rfl, ?_⟩
        replace ab := am (bB ab.out hb)
        replace HB := am (sTx HB.out hb)
        refine hK.out _ _ ⟨cT ab 0, cT ab 1, ((HB.out.cell (World.block_lt_of_cell? w _ hw234_0)).trans hw234_0), ((HB.out.cell (World.block_lt_of_cell? w _ hw234_1)).trans hw234_1)⟩ (fun hHeld => ?_)
        clear hK K
        refine mN 16 ?_
        refine pT 3 17 (bA 26 15) HT_.out ?_
        refine pT 4 18 (bA 26 31) HT_.out ?_
        refine pT 5 19 (bA 26 63) HT_.out ?_
        refine tT 6 20 (bA 26 127) HT_.out HW_.out hHeld ?_ (hy := by rintro w' ⟨s0, s1, s2, s3⟩; go_simp; with_reducible rfl)
        refine pT 7 21 (bA 26 255) HT_.out ?_
        refine pT 8 22 (bA 26 511) HT_.out ?_
        refine pT 9 23 (bA 26 1023) HT_.out ?_
        refine pT 10 24 (bA 26 2047) HT_.out ?_
        refine pT 11 25 (bA 26 4095) HT_.out ?_
        refine pT 12 26 (bA 26 8191) HT_.out ?_
        refine pT 13 27 (bA 26 16383) HT_.out ?_
        refine pT 14 28 (bA 26 32767) HT_.out ?_
        refine pT 15 29 (bA 26 65535) HT_.out ?_
        refine pT 16 30 (bA 26 131071) HT_.out ?_
        refine pT 17 31 (bA 26 262143) HT_.out ?_
        refine pT 18 32 (bA 26 524287) HT_.out ?_
        refine pT 20 34 (bA 26 1572863) HT_.out ?_
        refine tT 19 33 (bA 26 2097151) HT_.out HW_.out hHeld ?_ (hy := by rintro w' ⟨s0, s1, s2, s3⟩; go_simp; with_reducible rfl)
        refine tT 21 35 (bA 26 4194303) HT_.out HW_.out hHeld ?_ (hy := by rintro w' ⟨s0, s1, s2, s3⟩; go_simp; with_reducible rfl)
        refine oT 22 (bA 26 8388607) HT_.out fun K hK => ?_
        refine goes_ Tryz.func79 rfK rfl #[.string ((rd_T63 l0 (aj)).f0), .string ((rd_T63 l0 aa).f0)] (by rfl) rfl rfl (by (try simp only [List.map_toArray, List.map_cons, List.map_nil]); first | done | (simp only [ay]; rfl) | rfl | (simp only [List.length_drop, List.length_take]; rfl)) ?_
        with_reducible refine (octet_Cmp.calls ((rd_T63 l0 (aj)).f0) ((rd_T63 l0 aa).f0) au _ A18.out).mono ?_
        rintro e w' ⟨rfl, ⟨nd, rfl⟩⟩
        refine ⟨_, rfl, ?_⟩
        refine hK.out _ _ ⟨cT ab 0, cT ab 1, ((HB.out.cell (World.block_lt_of_cell? w _ hw234_0)).trans hw234_0), ((HB.out.cell (World.block_lt_of_cell? w _ hw234_1)).trans hw234_1)⟩ (fun hHeld => ?_)
        clear hK K
        refine mN 36 ?_
        refine pT 23 37 (bA 26 16777215) HT_.out ?_
        refine pT 24 38 (bA 26 33554431) HT_.out ?_
        refine pT 25 39 (bA 26 67108863) HT_.out ?_
        refine done_ (done_of HT_.out rfK) ?_
        try go_wp2
        go_meet
        case rel => exact ⟨_, (decide (au ≥ 0)), rfG, H', ⟨by have := HK1.out; first | omega | exact Nat.le_refl _⟩, ⟨bT ab.out⟩, ⟨eTx HB.out⟩⟩
       ·have aD : decide (0 < aa) = false := decide_eq_false c14
        clear c14
        have H' := Aside0.mk H
        clear H
        try go_wp2
        obtain ⟨w22, hW_⟩ : ∃ W_, ((w6.setCell ⟨ad, 0, none⟩ (.string ((rd_T63 l0 aa).f0))).setCell ⟨ad, 1, none⟩ (.slice af ((rd_T63 l0 aa).f1).length ae)) = W_ := ⟨_, rfl⟩
        have n0_ : Aside0 (w22.heap[ad]? = some (.cells #[.string ((rd_T63 l0 aa).f0), .slice af ((rd_T63 l0 aa).f1).length ae] 63 (0, 0))) := ⟨by rw [← hW_]; exact kBk⟩
        have n1_ : Aside0 (Below w.heap.size w w22) := ⟨by rw [← hW_]; exact eTx HB.out⟩
        rw [hW_]
        clear hW_
        have ab := n0_
        have HB := n1_
        clear n0_ n1_
        replace ab := am (blk_drew ab.out)
        replace HB := am (below_drew1 HB.out)
        refine start_ (n := 26) (S := fun w' => w'.cell? ⟨ad, 0, none⟩ = some (.string ((rd_T63 l0 aa).f0)) ∧ w'.cell? ⟨ad, 1, none⟩ = some (.slice af ((rd_T63 l0 aa).f1).length ae)) (ds := []) (bA 26 0) rfK rfl rfK ⟨cT ab 0, cT ab 1⟩ (fun hHeld => ?_); refine with_tabW tally_Check.tab4 tally_Check.bits4 (fun HT_ HW_ => ?_)
        generalize w22.drew = w23 at ab HB hHeld ⊢
        refine pT 0 14 (bA 26 1) HT_.out ?_
        refine tT 1 15 (bA 26 3) HT_.out HW_.out hHeld ?_ (hy := by rintro w' ⟨s0, s1⟩; go_simp; with_reducible rfl)
        refine oT 2 (bA 26 7) HT_.out fun K hK => ?_
        refine gS Tryz.func32 #[.string ((rd_T63 l0 aa).f0)] ?_
        with_reducible refine (path_May.calls k1 ((rd_T63 l0 aa).f0) true _ A8.out).mono ?_
        rintro e w24 ⟨rfl, hb⟩
        refine ⟨_, rfl, ?_⟩
        replace ab := am (bB ab.out hb)
        replace HB := am (sTx HB.out hb)
        refine hK.out _ _ ⟨cT ab 0, cT ab 1⟩ (fun hHeld => ?_)
        clear hK K
        refine mN 16 ?_
        refine pT 3 17 (bA 26 15) HT_.out ?_
        refine pT 4 18 (bA 26 31) HT_.out ?_
        refine pT 5 19 (bA 26 63) HT_.out ?_
        refine tT 6 20 (bA 26 127) HT_.out HW_.out hHeld ?_ (hy := by rintro w' ⟨s0, s1⟩; go_simp; with_reducible rfl)
        refine pT 7 21 (bA 26 255) HT_.out ?_
        refine pT 8 22 (bA 26 511) HT_.out ?_
        refine pT 9 23 (bA 26 1023) HT_.out ?_
        refine pT 10 24 (bA 26 2047) HT_.out ?_
        refine pT 11 25 (bA 26 4095) HT_.out ?_
        refine pT 12 26 (bA 26 8191) HT_.out ?_
        refine pT 13 27 (bA 26 16383) HT_.out ?_
        refine pU 14 28 (bA 26 32767) HT_.out ?_
        refine pU 15 29 (bA 26 65535) HT_.out ?_
        refine pU 16 30 (bA 26 131071) HT_.out ?_
        refine pU 17 31 (bA 26 262143) HT_.out ?_
        refine pU 18 32 (bA 26 524287) HT_.out ?_
        refine pU 19 33 (bA 26 1048575) HT_.out ?_
        refine pU 20 34 (bA 26 2097151) HT_.out ?_
        refine pU 21 35 (bA 26 4194303) HT_.out ?_
        refine pU 22 36 (bA 26 8388607) HT_.out ?_
        refine pU 23 37 (bA 26 16777215) HT_.out ?_
        refine pT 24 38 (bA 26 33554431) HT_.out ?_
        refine pT 25 39 (bA 26 67108863) HT_.out ?_
        refine done_ (done_of HT_.out rfK) ?_
        try go_wp2
        go_meet
        case rel => exact ⟨_, (false), rfG, H', ⟨by have := HK1.out; first | omega | exact Nat.le_refl _⟩, ⟨bT ab.out⟩, ⟨eTx HB.out⟩⟩
     ·have H' := Aside0.mk H
      clear H
      try go_wp2
      obtain ⟨w25, hW_⟩ : ∃ W_, ((w6.setCell ⟨ad, 0, none⟩ (.string ((rd_T63 l0 aa).f0))).setCell ⟨ad, 1, none⟩ (.slice af ((rd_T63 l0 aa).f1).length ae)) = W_ := ⟨_, rfl⟩
      have n0_ : Aside0 (w25.heap[ad]? = some (.cells #[.string ((rd_T63 l0 aa).f0), .slice af ((rd_T63 l0 aa).f1).length ae] 63 (0, 0))) := ⟨by rw [← hW_]; exact kBk⟩
      have n1_ : Aside0 (Below w.heap.size w w25) := ⟨by rw [← hW_]; exact eTx HB.out⟩
      rw [hW_]
      clear hW_
      have ab := n0_
      have HB := n1_
      clear n0_ n1_
      replace ab := am (blk_drew ab.out)
      replace HB := am (below_drew1 HB.out)
      refine start_ (n := 26) (S := fun w' => w'.cell? ⟨ad, 0, none⟩ = some (.string ((rd_T63 l0 aa).f0)) ∧ w'.cell? ⟨ad, 1, none⟩ = some (.slice af ((rd_T63 l0 aa).f1).length ae)) (ds := []) (bA 26 0) rfK rfl rfK ⟨cT ab 0, cT ab 1⟩ (fun hHeld => ?_); refine with_tabW tally_Check.tab4 tally_Check.bits4 (fun HT_ HW_ => ?_)
      generalize w25.drew = w26 at ab HB hHeld ⊢
      refine pT 0 14 (bA 26 1) HT_.out ?_
      refine tT 1 15 (bA 26 3) HT_.out HW_.out hHeld ?_ (hy := by rintro w' ⟨s0, s1⟩; go_simp; with_reducible rfl)
      refine oT 2 (bA 26 7) HT_.out fun K hK => ?_
      refine gS Tryz.func32 #[.string ((rd_T63 l0 aa).f0)] ?_
      with_reducible refine (path_May.calls k1 ((rd_T63 l0 aa).f0) false _ A8.out).mono ?_
      rintro e w27 ⟨rfl, hb⟩
      refine ⟨_, rfl, ?_⟩
      replace ab := am (bB ab.out hb)
      replace HB := am (sTx HB.out hb)
      refine hK.out _ _ ⟨cT ab 0, cT ab 1⟩ (fun hHeld => ?_)
      clear hK K
      refine mN 16 ?_
      refine pT 3 17 (bA 26 15) HT_.out ?_
      refine pT 4 18 (bA 26 31) HT_.out ?_
      refine pU 5 19 (bA 26 63) HT_.out ?_
      refine pU 6 20 (bA 26 127) HT_.out ?_
      refine pU 7 21 (bA 26 255) HT_.out ?_
      refine pU 8 22 (bA 26 511) HT_.out ?_
      refine pT 9 23 (bA 26 1023) HT_.out ?_
      refine pT 10 24 (bA 26 2047) HT_.out ?_
      refine pU 11 25 (bA 26 4095) HT_.out ?_
      refine pU 12 26 (bA 26 8191) HT_.out ?_
      refine pU 13 27 (bA 26 16383) HT_.out ?_
      refine pU 14 28 (bA 26 32767) HT_.out ?_
      refine pU 15 29 (bA 26 65535) HT_.out ?_
      refine pU 16 30 (bA 26 131071) HT_.out ?_
      refine pU 17 31 (bA 26 262143) HT_.out ?_
      refine pU 18 32 (bA 26 524287) HT_.out ?_
      refine pU 19 33 (bA 26 1048575) HT_.out ?_
      refine pU 20 34 (bA 26 2097151) HT_.out ?_
      refine pU 21 35 (bA 26 4194303) HT_.out ?_
      refine pU 22 36 (bA 26 8388607) HT_.out ?_
      refine pU 23 37 (bA 26 16777215) HT_.out ?_
      refine pU 24 38 (bA 26 33554431) HT_.out ?_
      refine pT 25 39 (bA 26 67108863) HT_.out ?_
      refine done_ (done_of HT_.out rfK) ?_
      try go_wp2
      go_meet
      case rel => exact ⟨_, (true), rfG, H', ⟨by have := HK1.out; first | omega | exact Nat.le_refl _⟩, ⟨bT ab.out⟩, ⟨eTx HB.out⟩⟩
    case rest =>
     clear HC5
     obtain ⟨kq, aB, rfl, HA, HJ4, ab, HB⟩ := hcut
     cases kq with
     | zero => exact absurd HA.out (by simp [tally_Check.j1])
     | succ kj4 =>
      have H := HA.out
      clear HA
      simp only [tally_Check.j1] at H
      replace H := ifB H; rcases H with ⟨rfl, H⟩ | ⟨rfl, H⟩
      ·obtain rfl := smI H
       go_wp2
       go_ret
       exact ⟨rfF, eTx HB.out⟩
      ·have H' := Aside0.mk H
       clear H
       obtain ⟨aH, aI, aJ, aK⟩ := bxB ab
       go_wp2
       go_loopg [43] kj4 (fun kq v43 w' => ∃ (ac : Int), v43 = .int .i64 ac ∧ Aside0 (tally_Check.l1 kq l0 l0 (l0.length : Int) aa ((rd_T63 l0 aa).f1) (((rd_T63 l0 aa).f1).length : Int) ac ((rd_T63 l0 aa).f0) ((rd_T63 l0 aa).f1) = some r) ∧ Aside0 (kq ≤ kj4) ∧ Aside0 (w'.heap[ad]? = some (.cells #[.string ((rd_T63 l0 aa).f0), (.slice af ((rd_T63 l0 aa).f1).length ae)] 63 (0, 0))) ∧ Aside0 (Below w.heap.size w w'))
       case atStart => exact ⟨(0), rfG, H', ⟨Nat.le_refl _⟩, ⟨bT ab.out⟩, ⟨eTx HB.out⟩⟩
       case round =>
        clear H'
        obtain ⟨ac, rfl, HA, HK3, ab, HB⟩ := hrel
        cases gk with
        | zero => exact absurd HA.out (by simp [tally_Check.l1])
        | succ k3 =>
         have H := HA.out
         clear HA
         simp only [tally_Check.l1] at H
         replace H := ifP H; rcases H with ⟨c30, H⟩ | ⟨c30, H⟩
         ·have aR := decide_eq_true c30
          clear c30
          replace H := ifN H; obtain ⟨c31, H⟩ := H
          have bG := decide_eq_true c31
          clear c31
          replace H := ifN H; obtain ⟨c32, H⟩ := H
          have bH := decide_eq_true c32
          clear c32
          replace H := bnd H; obtain ⟨aF, A33, H⟩ := H
          replace H := ifB H; rcases H with ⟨rfl, H⟩ | ⟨rfl, H⟩
          ·replace H := ifP H; rcases H with ⟨c35, H⟩ | ⟨c35, H⟩
           ·have aV : decide (0 < ac) = true := decide_eq_true c35
            clear c35
            obtain ⟨al, az⟩ : ∃ j_ : Int, (wrap64 (ac - 1)) = j_ := ⟨_, rfl⟩
            replace H : (if 0 ≤ (al) then (if (al) < (((rd_T63 l0 aa).f1).length : Int) then ((tally_order.f k3 (rdOf ByteArray.empty ((rd_T63 l0 aa).f1) (al)) (rdOf ByteArray.empty ((rd_T63 l0 aa).f1) ac)).bind fun an => (if an ≥ 0 then (some 1) else (tally_Check.l1 k3 l0 l0 (l0.length : Int) aa ((rd_T63 l0 aa).f1) (((rd_T63 l0 aa).f1).length : Int) (wrap64 (ac + 1)) ((rd_T63 l0 aa).f0) ((rd_T63 l0 aa).f1)))) else (none)) else (none)) = some r := by first | (rw [az] at H; exact H) | (simp only [az] at H ⊢; exact H)
            (try rw [az] at A33)
            have bv : (IntKind.i64.wrap (ac - 1)) = al := (i64_w _).trans az
            replace H := ifN H; obtain ⟨c37, H⟩ := H
            have bI := decide_eq_true c37
            clear c37
            replace H := ifN H; obtain ⟨c38, H⟩ := H
            have bJ := decide_eq_true c38
            clear c38
            replace H := bnd H; obtain ⟨an, A39, H⟩ := H
            replace H := ifP H; rcases H with ⟨c40, H⟩ | ⟨c40, H⟩
            ·have aX : decide (0 ≤ an) = true := decide_eq_true c40
             clear c40
             obtain rfl := smI H
             have p236 : 0 ≤ (ac : Int) := of_decide_eq_true rfA
             have q236 : ac < (((rd_T63 l0 aa).f1).length : Int) := of_decide_eq_true rfA
             obtain ⟨ad236, e236, ag⟩ := Kd.at_string ak.out ac p236 q236
             cases e236
             replace ag := (HB.out.cell (World.block_lt_of_cell? w _ ag)).trans ag
             replace p236 := eq_true p236
             replace q236 := eq_true q236
             go_wp2_with (first | ((with_reducible refine gtC 77 ?_); refine xCb 49 Tryz.func77 (version_May.calls k3 (rdOf ByteArray.empty ((rd_T63 l0 aa).f1) ac) true _ A33.out) fun w41 hb => ?_; replace ab := am (bB ab.out hb); replace HB := am (sTx HB.out hb); obtain ⟨a2, a3, a4, a5⟩ := bxB ab; have p238 : 0 ≤ ((al) : Int) := of_decide_eq_true rfA; have q238 : (al) < (((rd_T63 l0 aa).f1).length : Int) := of_decide_eq_true rfA; obtain ⟨ad238, e238, ai⟩ := Kd.at_string ak.out (al) p238 q238; obtain rfl : ad236 = ad238 := (by injection e238); replace ai := (HB.out.cell (World.block_lt_of_cell? w _ ai)).trans ai; replace p238 := eq_true p238; replace q238 := eq_true q238) | (go_at_call 57; (with_reducible refine (tally_order.calls k3 (rdOf ByteArray.empty ((rd_T63 l0 aa).f1) (al)) (rdOf ByteArray.empty ((rd_T63 l0 aa).f1) ac) an _ A39.out).mono ?_); rintro e w43 ⟨rfl, hb⟩; replace ab := am (bB ab.out hb); replace HB := am (sTx HB.out hb)))
             go_ret
             exact ⟨by first | rfl | (simp [errW_none, errW_some] <;> rfl) | (simp only [← az]; first | rfl | (simp [errW_none, errW_some] <;> rfl)) | (simp [*, errW_none, errW_some] <;> rfl), eTx HB.out⟩
            ·have aX : decide (0 ≤ an) = false := decide_eq_false c40
             clear c40
             have H' := Aside0.mk H
             clear H
             have p236 : 0 ≤ (ac : Int) := of_decide_eq_true rfA
             have q236 : ac < (((rd_T63 l0 aa).f1).length : Int) := of_decide_eq_true rfA
             obtain ⟨ad236, e236, ag⟩ := Kd.at_string ak.out ac p236 q236
             cases e236
             replace ag := (HB.out.cell (World.block_lt_of_cell? w _ ag)).trans ag
             replace p236 := eq_true p236
             replace q236 := eq_true q236
             go_wp2_with (first | ((with_reducible refine gtC 77 ?_); refine xCb 49 Tryz.func77 (version_May.calls k3 (rdOf ByteArray.empty ((rd_T63 l0 aa).f1) ac) true _ A33.out) fun w44 hb => ?_; replace ab := am (bB ab.out hb); replace HB := am (sTx HB.out hb); obtain ⟨a6, a7, a8, a9⟩ := bxB ab; have p238 : 0 ≤ ((al) : Int) := of_decide_eq_true rfA; have q238 : (al) < (((rd_T63 l0 aa).f1).length : Int) := of_decide_eq_true rfA; obtain ⟨ad238, e238, ai⟩ := Kd.at_string ak.out (al) p238 q238; obtain rfl : ad236 = ad238 := (by injection e238); replace ai := (HB.out.cell (World.block_lt_of_cell? w _ ai)).trans ai; replace p238 := eq_true p238; replace q238 := eq_true q238) | (go_at_call 57; (with_reducible refine (tally_order.calls k3 (rdOf ByteArray.empty ((rd_T63 l0 aa).f1) (al)) (rdOf ByteArray.empty ((rd_T63 l0 aa).f1) ac) an _ A39.out).mono ?_); rintro e w46 ⟨rfl, hb⟩; replace ab := am (bB ab.out hb); replace HB := am (sTx HB.out hb)))
             go_roundg k3
             case measure => have := HK1.out; have := HJ4.out; have := HK3.out; omega
             case rel => exact ⟨(wrap64 (ac + 1)), rfG, H', ⟨by have := HK1.out; have := HJ4.out; have := HK3.out; omega⟩, ⟨bT ab.out⟩, ⟨eTx HB.out⟩⟩
           ·have aV : decide (0 < ac) = false := decide_eq_false c35
            clear c35
            have H' := Aside0.mk H
            clear H
            have p236 : 0 ≤ (ac : Int) := of_decide_eq_true rfA
            have q236 : ac < (((rd_T63 l0 aa).f1).length : Int) := of_decide_eq_true rfA
            obtain ⟨ad236, e236, ag⟩ := Kd.at_string ak.out ac p236 q236
            cases e236
            replace ag := (HB.out.cell (World.block_lt_of_cell? w _ ag)).trans ag
            replace p236 := eq_true p236
            replace q236 := eq_true q236
            go_wp2_with (first | ((with_reducible refine gtC 77 ?_); refine xCb 49 Tryz.func77 (version_May.calls k3 (rdOf ByteArray.empty ((rd_T63 l0 aa).f1) ac) true _ A33.out) fun w47 hb => ?_; replace ab := am (bB ab.out hb); replace HB := am (sTx HB.out hb)))
            go_roundg k3
            case measure => have := HK1.out; have := HJ4.out; have := HK3.out; omega
            case rel => exact ⟨(wrap64 (ac + 1)), rfG, H', ⟨by have := HK1.out; have := HJ4.out; have := HK3.out; omega⟩, ⟨bT ab.out⟩, ⟨eTx HB.out⟩⟩
          ·obtain rfl := smI H
           have p236 : 0 ≤ (ac : Int) := of_decide_eq_true rfA
           have q236 : ac < (((rd_T63 l0 aa).f1).length : Int) := of_decide_eq_true rfA
           obtain ⟨ad236, e236, ag⟩ := Kd.at_string ak.out ac p236 q236
           cases e236
           replace ag := (HB.out.cell (World.block_lt_of_cell? w _ ag)).trans ag
           replace p236 := eq_true p236
           replace q236 := eq_true q236
           go_wp2_with (first | ((with_reducible refine gtC 77 ?_); refine xCb 49 Tryz.func77 (version_May.calls k3 (rdOf ByteArray.empty ((rd_T63 l0 aa).f1) ac) false _ A33.out) fun w48 hb => ?_; replace ab := am (bB ab.out hb); replace HB := am (sTx HB.out hb)))
           go_ret
           exact ⟨rfF, eTx HB.out⟩
         ·have aR := decide_eq_false c30
          clear c30
          have H' := Aside0.mk H
          clear H
          go_wp2
          go_roundg k3
          case measure => have := HK1.out; have := HJ4.out; have := HK3.out; omega
          case rel => exact ⟨(wrap64 (aa + 1)), rfG, H', ⟨by have := HK1.out; have := HJ4.out; have := HK3.out; omega⟩, ⟨eTx HB.out⟩⟩
   ·have bp := decide_eq_false c2
    clear c2
    obtain rfl := smI H
    go_wp2
    go_ret
    exact ⟨rfF, eTx HB.out⟩

end Go.Proofs.YtknmfmedklfepaaGreatDoor.P
