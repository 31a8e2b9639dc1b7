-- half the indentation
import Derived.Test.YtknmfmedklfepaaGreatDoorReg
import Derived.Test.YtknmfmedklfepaaGreatDoorSqz
import Derived.Test.YtknmfmedklfepaaGreatDoorP0
import Derived.Test.YtknmfmedklfepaaGreatDoorP5
import Derived.Test.YtknmfmedklfepaaGreatDoorP7
import Derived.Test.YtknmfmedklfepaaGreatDoorP8
namespace Go.Proofs.YtknmfmedklfepaaGreatDoor.P
open Go.RowKit Go.Proofs.YtknmfmedklfepaaGreatDoorW.PrintWords Go.Proofs.YtknmfmedklfepaaGreatDoorW.PrintLast Go.Proofs.YtknmfmedklfepaaGreatDoorW.PrintMore
attribute [local go_sem] max2_int min2_int max_two min_two max_three min_three max_four min_four
set_option linter.unusedVariables false
set_option linter.unusedSimpArgs false
set_option maxHeartbeats 8000000
set_option maxRecDepth 100000

theorem rd3_75 {w : World} {A : Option Addr} {n : Nat} {xs : List S75} (h : Kd.C k75 w A n xs) (i : Int) (h0 : 0 ≤ i) (h1 : i < n) : ∃ ad, A = some ad ∧ S3 w (ad.add (i.toNat * 3)) (rd_T75 xs i).f0 (rd_T75 xs i).f1 (rd_T75 xs i).f2 ∧ (0 ≤ i) = True ∧ (i < (n : Int)) = True :=
  let ⟨ad, e, h⟩ := at_T75 h i h0 h1; ⟨ad, e, h, eq_true h0, eq_true h1⟩
/-! ### graftwoodref17_Changes: function 25 -/
def graftwoodref17_Changes.l0 : Nat → List (S75) → Int → Option (Bool)
 | 0, _, _ => none
 | k + 1, x0, x3 => if x3 < (x0.length : Int) then (if 0 ≤ x3 then ((graftwoodref04_May.f k ((rd_T75 x0 x3).f0)).bind fun bI => (if bI = true then (if ((rd_T75 x0 x3).f1).toList = ([] : List UInt8) then (if ((rd_T75 x0 x3).f2).toList = ([] : List UInt8) then (if ((rd_T75 x0 x3).f1).toList = ((rd_T75 x0 x3).f2).toList then (some false) else (if x3 > 0 then (if 0 ≤ (wrap64 (x3 - 1)) then (if (wrap64 (x3 - 1)) < (x0.length : Int) then ((graftwoodref01_Cmp.f k ((rd_T75 x0 (wrap64 (x3 - 1))).f0) ((rd_T75 x0 x3).f0)).bind fun bx => (if bx ≥ 0 then (some false) else (graftwoodref17_Changes.l0 k x0 (wrap64 (x3 + 1))))) else (none)) else (none)) else (graftwoodref17_Changes.l0 k x0 (wrap64 (x3 + 1))))) else ((graftwoodref03_May.f k ((rd_T75 x0 x3).f2)).bind fun bG => (if bG = true then (if ((rd_T75 x0 x3).f1).toList = ((rd_T75 x0 x3).f2).toList then (some false) else (if x3 > 0 then (if 0 ≤ (wrap64 (x3 - 1)) then (if (wrap64 (x3 - 1)) < (x0.length : Int) then ((graftwoodref01_Cmp.f k ((rd_T75 x0 (wrap64 (x3 - 1))).f0) ((rd_T75 x0 x3).f0)).bind fun bv => (if bv ≥ 0 then (some false) else (graftwoodref17_Changes.l0 k x0 (wrap64 (x3 + 1))))) else (none)) else (none)) else (graftwoodref17_Changes.l0 k x0 (wrap64 (x3 + 1))))) else (some false)))) else ((graftwoodref03_May.f k ((rd_T75 x0 x3).f1)).bind fun bH => (if bH = true then (if ((rd_T75 x0 x3).f2).toList = ([] : List UInt8) then (if ((rd_T75 x0 x3).f1).toList = ((rd_T75 x0 x3).f2).toList then (some false) else (if x3 > 0 then (if 0 ≤ (wrap64 (x3 - 1)) then (if (wrap64 (x3 - 1)) < (x0.length : Int) then ((graftwoodref01_Cmp.f k ((rd_T75 x0 (wrap64 (x3 - 1))).f0) ((rd_T75 x0 x3).f0)).bind fun bw => (if bw ≥ 0 then (some false) else (graftwoodref17_Changes.l0 k x0 (wrap64 (x3 + 1))))) else (none)) else (none)) else (graftwoodref17_Changes.l0 k x0 (wrap64 (x3 + 1))))) else ((graftwoodref03_May.f k ((rd_T75 x0 x3).f2)).bind fun bE => (if bE = true then (if ((rd_T75 x0 x3).f1).toList = ((rd_T75 x0 x3).f2).toList then (some false) else (if x3 > 0 then (if 0 ≤ (wrap64 (x3 - 1)) then (if (wrap64 (x3 - 1)) < (x0.length : Int) then ((graftwoodref01_Cmp.f k ((rd_T75 x0 (wrap64 (x3 - 1))).f0) ((rd_T75 x0 x3).f0)).bind fun bu => (if bu ≥ 0 then (some false) else (graftwoodref17_Changes.l0 k x0 (wrap64 (x3 + 1))))) else (none)) else (none)) else (graftwoodref17_Changes.l0 k x0 (wrap64 (x3 + 1))))) else (some false)))) else (some false)))) else (some false))) else (none)) else (some true)
def graftwoodref17_Changes.f (k : Nat) (l0 : List (S75)) : Option (Bool) := graftwoodref17_Changes.l0 k l0 0
theorem graftwoodref17_Changes.mono_l : ∀ k, (∀ y0 y1, LeO (graftwoodref17_Changes.l0 k y0 y1) (graftwoodref17_Changes.l0 (k + 1) y0 y1))
 | 0 => fun _ _ r h => by simp [graftwoodref17_Changes.l0] at h
 | k + 1 => by
  have ih0 := graftwoodref17_Changes.mono_l k
  ·intro y0 y1
   unfold graftwoodref17_Changes.l0
   repeat' first | (with_reducible first | apply ih0 | apply graftwoodref01_Cmp.mono | apply graftwoodref03_May.mono | apply graftwoodref04_May.mono | apply LeO.refl | apply LeO.none | apply LeO.ite | refine LeO.bind ?_ (fun _ => ?_)) | apply ih0 | apply graftwoodref01_Cmp.mono | apply graftwoodref03_May.mono | apply graftwoodref04_May.mono | exact LeO.none _ | refine LeO.ite ?_ ?_ | refine LeO.bind ?_ (fun _ => ?_)
theorem graftwoodref17_Changes.mono : ∀ a0 k, LeO (graftwoodref17_Changes.f k a0) (graftwoodref17_Changes.f (k + 1) a0) := by
 intro a0 k
 have ih0 := graftwoodref17_Changes.mono_l k
 unfold graftwoodref17_Changes.f
 repeat' first | (with_reducible first | apply ih0 | apply graftwoodref01_Cmp.mono | apply graftwoodref03_May.mono | apply graftwoodref04_May.mono | apply LeO.refl | apply LeO.none | apply LeO.ite | refine LeO.bind ?_ (fun _ => ?_)) | apply ih0 | apply graftwoodref01_Cmp.mono | apply graftwoodref03_May.mono | apply graftwoodref04_May.mono | exact LeO.none _ | refine LeO.ite ?_ ?_ | refine LeO.bind ?_ (fun _ => ?_)
def graftwoodref17_Changes.T4 : Bool × List (List Nat × List Nat) := (true, [([], []), ([], []), ([0, 1], [0, 1]), ([2], [2]), ([3], [3]), ([4], [4]), ([5], [5]), ([6, 5], [6]), ([7], [7]), ([7], [7]), ([8, 9, 7], [7, 8, 9]), ([10, 7], [7, 10]), ([11, 7], [7, 11]), ([12, 7], [7, 12]), ([13, 7, 7], [7, 13]), ([14], [14]), ([14], [14]), ([15, 16, 14], [14, 15, 16]), ([17, 14], [14, 17]), ([18, 14], [14, 18]), ([19, 14, 14], [14, 19]), ([20, 14], [14, 20]), ([14, 21, 7], [7, 14, 21]), ([7, 22], [7, 22]), ([23, 20], [23]), ([24], [24]), ([24], [24]), ([25, 26, 24], [24, 25, 26]), ([27, 24], [24, 27]), ([28, 24], [24, 28]), ([29, 24], [24, 29]), ([30, 24, 24], [24, 30]), ([31], [31]), ([31], [31]), ([32, 33, 31], [31, 32, 33]), ([34, 31], [31, 34]), ([35, 31], [31, 35]), ([36, 31, 31], [31, 36]), ([37, 31], [31, 37]), ([31, 38, 24], [24, 31, 38]), ([24, 39], [24, 39]), ([40, 37], [40]), ([41], [41]), ([41], [41]), ([42, 43, 41], [41, 42, 43]), ([44, 41], [41, 44]), ([45, 41], [41, 45]), ([41], [41]), ([41], [41]), ([47, 48, 41], [41, 47, 48]), ([49, 41], [41, 49]), ([50, 41], [41, 50]), ([46, 51, 41], [41, 46, 51]), ([41, 52], [41, 52]), ([53, 41], [53]), ([54], [54]), ([55, 54], [54, 55]), ([56, 54, 54], [54, 56]), ([57], [57]), ([57], [57]), ([59, 57], [57, 59]), ([58, 60, 57], [57, 58, 60]), ([61, 57], [57, 61]), ([62, 57], [57, 62]), ([57], [57]), ([57], [57]), ([64, 65, 57], [57, 64, 65]), ([66, 57], [57, 66]), ([67, 57], [57, 67]), ([63, 68, 57, 57], [57, 63, 68]), ([69, 57], [57, 69]), ([57, 70, 54], [54, 57, 70]), ([54, 71], [54, 71])])
def graftwoodref17_Changes.B4 : List Nat := [0, 0, 3, 7, 15, 31, 63, 127, 255, 255, 1023, 2047, 4095, 8191, 16383, 32767, 32767, 131071, 262143, 524287, 1048575, 2097151, 4194303, 8388607, 16777215, 33554431, 33554431, 134217727, 268435455, 536870911, 1073741823, 2147483647, 4294967295, 4294967295, 17179869183, 34359738367, 68719476735, 137438953471, 274877906943, 549755813887, 1099511627775, 2199023255551, 4398046511103, 4398046511103, 17592186044415, 35184372088831, 70368744177663, 4398046511103, 4398046511103, 426610511577087, 989560464998399, 2115460371841023, 4503599627370495, 9007199254740991, 18014398509481983, 36028797018963967, 72057594037927935, 144115188075855871, 288230376151711743, 288230376151711743, 864691128455135231, 2305843009213693951, 4611686018427387903, 9223372036854775807, 288230376151711743, 288230376151711743, 55628462597280366591, 129415438892118573055, 276989391481794985983, 590295810358705651711, 1180591620717411303423, 2361183241434822606847, 4722366482869645213695]
theorem graftwoodref17_Changes.tab4 : rtab .any (opsOf Tryz.f25 4) = graftwoodref17_Changes.T4 := by kernel_rfl
theorem graftwoodref17_Changes.bits4 : waitsOk graftwoodref17_Changes.T4.2 graftwoodref17_Changes.B4 = true := by kernel_rfl
theorem graftwoodref17_Changes.calls (k : Nat) (A0 : Option Addr) (c0 : Nat) (l0 : List (S75)) (r : Bool) (w : World) (hr0 : Kd.C k75 w A0 l0.length l0) (hc0 : l0.length ≤ c0) (h : graftwoodref17_Changes.f k l0 = some r) :
  Calls Tryz.prog 25 #[.slice A0 l0.length c0] w fun e w' => e = .returned (.bool r) ∧ Below w.heap.size w w' := by
 have HR0 := Aside0.mk hr0
 have HC0 := Aside0.mk hc0
 clear hr0 hc0
 have HB := am (Below.refl w.heap.size w)
 unfold graftwoodref17_Changes.f at h; have H := h; clear h
 have H' := Aside0.mk H
 clear H
 go_enter Tryz.func25, Tryz.ntmps25
 go_wp2
 go_loopg [3] k (fun kq v3 w' => ∃ (aa : Int), v3 = .int .i64 aa ∧ Aside0 (graftwoodref17_Changes.l0 kq l0 aa = some r) ∧ Aside0 (kq ≤ k) ∧ Aside0 (Below w.heap.size w w'))
 case atStart => exact ⟨(0), rfG, H', ⟨Nat.le_refl _⟩, ⟨eTx HB.out⟩⟩
 case round =>
  clear H'
  obtain ⟨aa, rfl, HA, HK1, HB⟩ := hrel
  cases gk with
  | zero => exact absurd HA.out (by simp [graftwoodref17_Changes.l0])
  | succ k1 =>
   have H := HA.out
   clear HA
   simp only [graftwoodref17_Changes.l0] at H
   replace H := ifP H; rcases H with ⟨c2, H⟩ | ⟨c2, H⟩
   ·have b8 := decide_eq_true c2
    clear c2
    replace H := ifN H; obtain ⟨c3, H⟩ := H
    have cq := decide_eq_true c3
    clear c3
    replace H := bnd H; obtain ⟨bI, A4, H⟩ := H
    replace H := ifB H; rcases H with ⟨rfl, H⟩ | ⟨rfl, H⟩
    ·replace H := ifP H; rcases H with ⟨c6, H⟩ | ⟨c6, H⟩
     ·have b9 := beq_iff_eq.mpr c6
      have b_ := bne_eq_false_iff_eq.mpr c6
      clear c6
      replace H := ifP H; rcases H with ⟨c7, H⟩ | ⟨c7, H⟩
      ·have ca := beq_iff_eq.mpr c7
       have cb := bne_eq_false_iff_eq.mpr c7
       clear c7
       replace H := ifP H; rcases H with ⟨c8, H⟩ | ⟨c8, H⟩
       ·have cc := beq_iff_eq.mpr c8
        have cd := bne_eq_false_iff_eq.mpr c8
        clear c8
        obtain rfl := smI H
        as_aux_lemma =>
        try go_wp2
        obtain ⟨ad394, e394, hw394, p394, q394⟩ := rd3_75 HR0.out aa (of_decide_eq_true rfA) (of_decide_eq_true rfA)
        cases e394
        have hS := fun (W : World) (HB : Aside0 (Below w.heap.size w W)) => s3B HB hw394
        refine zS 73 hS HB graftwoodref17_Changes.tab4 graftwoodref17_Changes.bits4 fun w9 HB hHeld HT_ HW_ => ?_
        iterate 4 refine zT HT_ ?_
        refine zL HT_ HW_ hHeld ?_
        refine zC hS HT_ HB Tryz.func17 (graftwoodref04_May.calls k1 ((rd_T75 l0 aa).f0) true _ A4.out) fun w10 HB hHeld => ?_
        refine mN _ ?_
        iterate 6 refine zT HT_ ?_
        refine zL HT_ HW_ hHeld ?_
        iterate 2 refine zT HT_ ?_
        iterate 7 refine zU HT_ ?_
        iterate 7 refine zT HT_ ?_
        refine zL HT_ HW_ hHeld ?_
        iterate 2 refine zT HT_ ?_
        iterate 7 refine zU HT_ ?_
        iterate 7 refine zT HT_ ?_
        refine zL HT_ HW_ hHeld ?_
        iterate 4 refine zT HT_ ?_
        refine zL HT_ HW_ hHeld ?_
        iterate 3 refine zT HT_ ?_
        iterate 17 refine zU HT_ ?_
        refine zT HT_ ?_
        refine zD HT_ ?_
        try go_wp2
        go_ret
        exact ⟨rfF, eTx HB.out⟩
       ·have cc := beq_eq_false_iff_ne.mpr c8
        have cd := bne_iff_ne.mpr c8
        replace H := ifP H; rcases H with ⟨c11, H⟩ | ⟨c11, H⟩
        ·have bJ : decide (0 < aa) = true := decide_eq_true c11
         clear c11
         obtain ⟨aZ, bF⟩ : ∃ j_ : Int, (wrap64 (aa - 1)) = j_ := ⟨_, rfl⟩
         replace H : (if 0 ≤ (aZ) then (if (aZ) < (l0.length : Int) then ((graftwoodref01_Cmp.f k1 ((rd_T75 l0 (aZ)).f0) ((rd_T75 l0 aa).f0)).bind fun bx => (if bx ≥ 0 then (some false) else (graftwoodref17_Changes.l0 k1 l0 (wrap64 (aa + 1))))) else (none)) else (none)) = some r := by first | (rw [bF] at H; exact H) | (simp only [bF] at H ⊢; exact H)
         (try rw [bF] at A4)
         have ce : (IntKind.i64.wrap (aa - 1)) = aZ := (i64_w _).trans bF
         replace H := ifN H; obtain ⟨c13, H⟩ := H
         have ci := decide_eq_true c13
         clear c13
         replace H := ifN H; obtain ⟨c14, H⟩ := H
         have cj := decide_eq_true c14
         clear c14
         replace H := bnd H; obtain ⟨bx, A15, H⟩ := H
         replace H := ifP H; rcases H with ⟨c16, H⟩ | ⟨c16, H⟩
         ·have bL : decide (0 ≤ bx) = true := decide_eq_true c16
          clear c16
          obtain rfl := smI H
          as_aux_lemma =>
          try go_wp2
          obtain ⟨ad394, e394, hw394, p394, q394⟩ := rd3_75 HR0.out aa (of_decide_eq_true rfA) (of_decide_eq_true rfA)
          cases e394
          obtain ⟨ad400, e400, hw400, p400, q400⟩ := rd3_75 HR0.out (aZ) (of_decide_eq_true rfA) (of_decide_eq_true rfA)
          obtain rfl : ad394 = ad400 := (by injection e400)
          have hS := fun (W : World) (HB : Aside0 (Below w.heap.size w W)) => And.intro (s3B HB hw394) (s3B HB hw400)
          refine zS 73 hS HB graftwoodref17_Changes.tab4 graftwoodref17_Changes.bits4 fun w17 HB hHeld HT_ HW_ => ?_
          iterate 4 refine zT HT_ ?_
          refine zL HT_ HW_ hHeld ?_
          refine zC hS HT_ HB Tryz.func17 (graftwoodref04_May.calls k1 ((rd_T75 l0 aa).f0) true _ A4.out) fun w18 HB hHeld => ?_
          refine mN _ ?_
          iterate 6 refine zT HT_ ?_
          refine zL HT_ HW_ hHeld ?_
          iterate 2 refine zT HT_ ?_
          iterate 7 refine zU HT_ ?_
          iterate 7 refine zT HT_ ?_
          refine zL HT_ HW_ hHeld ?_
          iterate 2 refine zT HT_ ?_
          iterate 7 refine zU HT_ ?_
          iterate 7 refine zT HT_ ?_
          refine zL HT_ HW_ hHeld ?_
          iterate 4 refine zT HT_ ?_
          refine zL HT_ HW_ hHeld ?_
          iterate 11 refine zT HT_ ?_
          refine zL HT_ HW_ hHeld ?_
          iterate 4 refine zT HT_ ?_
          refine zL HT_ HW_ hHeld ?_
          refine zC hS HT_ HB Tryz.func47 (dB (graftwoodref01_Cmp.calls k1 ((rd_T75 l0 (aZ)).f0) ((rd_T75 l0 aa).f0) bx _ A15.out)) fun wd HB hHeld => ?_
          refine mN _ ?_
          iterate 3 refine zT HT_ ?_
          refine zD HT_ ?_
          try go_wp2
          go_ret
          exact ⟨by first | rfl | (simp [errW_none, errW_some] <;> rfl) | (simp only [← bF]; first | rfl | (simp [errW_none, errW_some] <;> rfl)) | (simp [*, errW_none, errW_some] <;> rfl), eTx HB.out⟩
         ·have bL : decide (0 ≤ bx) = false := decide_eq_false c16
          clear c16
          have H' := Aside0.mk H
          clear H
          as_aux_lemma =>
          try go_wp2
          obtain ⟨ad394, e394, hw394, p394, q394⟩ := rd3_75 HR0.out aa (of_decide_eq_true rfA) (of_decide_eq_true rfA)
          cases e394
          obtain ⟨ad400, e400, hw400, p400, q400⟩ := rd3_75 HR0.out (aZ) (of_decide_eq_true rfA) (of_decide_eq_true rfA)
          obtain rfl : ad394 = ad400 := (by injection e400)
          have hS := fun (W : World) (HB : Aside0 (Below w.heap.size w W)) => And.intro (s3B HB hw394) (s3B HB hw400)
          refine zS 73 hS HB graftwoodref17_Changes.tab4 graftwoodref17_Changes.bits4 fun w19 HB hHeld HT_ HW_ => ?_
          iterate 4 refine zT HT_ ?_
          refine zL HT_ HW_ hHeld ?_
          refine zC hS HT_ HB Tryz.func17 (graftwoodref04_May.calls k1 ((rd_T75 l0 aa).f0) true _ A4.out) fun w20 HB hHeld => ?_
          refine mN _ ?_
          iterate 6 refine zT HT_ ?_
          refine zL HT_ HW_ hHeld ?_
          iterate 2 refine zT HT_ ?_
          iterate 7 refine zU HT_ ?_
          iterate 7 refine zT HT_ ?_
          refine zL HT_ HW_ hHeld ?_
          iterate 2 refine zT HT_ ?_
          iterate 7 refine zU HT_ ?_
          iterate 7 refine zT HT_ ?_
          refine zL HT_ HW_ hHeld ?_
          iterate 4 refine zT HT_ ?_
          refine zL HT_ HW_ hHeld ?_
          iterate 11 refine zT HT_ ?_
          refine zL HT_ HW_ hHeld ?_
          iterate 4 refine zT HT_ ?_
          refine zL HT_ HW_ hHeld ?_
          refine zC hS HT_ HB Tryz.func47 (dB (graftwoodref01_Cmp.calls k1 ((rd_T75 l0 (aZ)).f0) ((rd_T75 l0 aa).f0) bx _ A15.out)) fun wd HB hHeld => ?_
          refine mN _ ?_
          iterate 3 refine zT HT_ ?_
          refine zD HT_ ?_
          try go_wp2
          go_roundg k1
          case measure => have := HK1.out; omega
          case rel => exact ⟨(wrap64 (aa + 1)), rfG, H', ⟨by have := HK1.out; omega⟩, ⟨eTx HB.out⟩⟩
        ·have bJ : decide (0 < aa) = false := decide_eq_false c11
         clear c11
         have H' := Aside0.mk H
         clear H
         as_aux_lemma =>
         try go_wp2
         obtain ⟨ad394, e394, hw394, p394, q394⟩ := rd3_75 HR0.out aa (of_decide_eq_true rfA) (of_decide_eq_true rfA)
         cases e394
         have hS := fun (W : World) (HB : Aside0 (Below w.heap.size w W)) => s3B HB hw394
         refine zS 73 hS HB graftwoodref17_Changes.tab4 graftwoodref17_Changes.bits4 fun w21 HB hHeld HT_ HW_ => ?_
         iterate 4 refine zT HT_ ?_
         refine zL HT_ HW_ hHeld ?_
         refine zC hS HT_ HB Tryz.func17 (graftwoodref04_May.calls k1 ((rd_T75 l0 aa).f0) true _ A4.out) fun w22 HB hHeld => ?_
         refine mN _ ?_
         iterate 6 refine zT HT_ ?_
         refine zL HT_ HW_ hHeld ?_
         iterate 2 refine zT HT_ ?_
         iterate 7 refine zU HT_ ?_
         iterate 7 refine zT HT_ ?_
         refine zL HT_ HW_ hHeld ?_
         iterate 2 refine zT HT_ ?_
         iterate 7 refine zU HT_ ?_
         iterate 7 refine zT HT_ ?_
         refine zL HT_ HW_ hHeld ?_
         iterate 4 refine zT HT_ ?_
         refine zL HT_ HW_ hHeld ?_
         iterate 6 refine zT HT_ ?_
         iterate 13 refine zU HT_ ?_
         iterate 2 refine zT HT_ ?_
         refine zD HT_ ?_
         try go_wp2
         go_roundg k1
         case measure => have := HK1.out; omega
         case rel => exact ⟨(wrap64 (aa + 1)), rfG, H', ⟨by have := HK1.out; omega⟩, ⟨eTx HB.out⟩⟩
      ·have ca := beq_eq_false_iff_ne.mpr c7
       have cb := bne_iff_ne.mpr c7
       replace H := bnd H; obtain ⟨bG, A23, H⟩ := H
       replace H := ifB H; rcases H with ⟨rfl, H⟩ | ⟨rfl, H⟩
       ·replace H := ifP H; rcases H with ⟨c25, H⟩ | ⟨c25, H⟩
        ·have bN := beq_iff_eq.mpr c25
         have bO := bne_eq_false_iff_eq.mpr c25
         clear c25
         obtain rfl := smI H
         as_aux_lemma =>
         try go_wp2
         obtain ⟨ad394, e394, hw394, p394, q394⟩ := rd3_75 HR0.out aa (of_decide_eq_true rfA) (of_decide_eq_true rfA)
         cases e394
         have hS := fun (W : World) (HB : Aside0 (Below w.heap.size w W)) => s3B HB hw394
         refine zS 73 hS HB graftwoodref17_Changes.tab4 graftwoodref17_Changes.bits4 fun w26 HB hHeld HT_ HW_ => ?_
         iterate 4 refine zT HT_ ?_
         refine zL HT_ HW_ hHeld ?_
         refine zC hS HT_ HB Tryz.func17 (graftwoodref04_May.calls k1 ((rd_T75 l0 aa).f0) true _ A4.out) fun w27 HB hHeld => ?_
         refine mN _ ?_
         iterate 6 refine zT HT_ ?_
         refine zL HT_ HW_ hHeld ?_
         iterate 2 refine zT HT_ ?_
         iterate 7 refine zU HT_ ?_
         iterate 7 refine zT HT_ ?_
         refine zL HT_ HW_ hHeld ?_
         iterate 6 refine zT HT_ ?_
         refine zL HT_ HW_ hHeld ?_
         refine zC hS HT_ HB Tryz.func46 (graftwoodref03_May.calls k1 ((rd_T75 l0 aa).f2) true _ A23.out) fun w28 HB hHeld => ?_
         refine mN _ ?_
         iterate 8 refine zT HT_ ?_
         refine zL HT_ HW_ hHeld ?_
         iterate 4 refine zT HT_ ?_
         refine zL HT_ HW_ hHeld ?_
         iterate 3 refine zT HT_ ?_
         iterate 17 refine zU HT_ ?_
         refine zT HT_ ?_
         refine zD HT_ ?_
         try go_wp2
         go_ret
         exact ⟨rfF, eTx HB.out⟩
        ·have bN := beq_eq_false_iff_ne.mpr c25
         have bO := bne_iff_ne.mpr c25
         replace H := ifP H; rcases H with ⟨c29, H⟩ | ⟨c29, H⟩
         ·have bP : decide (0 < aa) = true := decide_eq_true c29
          clear c29
          obtain ⟨a1, bC⟩ : ∃ j_ : Int, (wrap64 (aa - 1)) = j_ := ⟨_, rfl⟩
          replace H : (if 0 ≤ (a1) then (if (a1) < (l0.length : Int) then ((graftwoodref01_Cmp.f k1 ((rd_T75 l0 (a1)).f0) ((rd_T75 l0 aa).f0)).bind fun bv => (if bv ≥ 0 then (some false) else (graftwoodref17_Changes.l0 k1 l0 (wrap64 (aa + 1))))) else (none)) else (none)) = some r := by first | (rw [bC] at H; exact H) | (simp only [bC] at H ⊢; exact H)
          (try rw [bC] at A4)
          (try rw [bC] at A23)
          have cf : (IntKind.i64.wrap (aa - 1)) = a1 := (i64_w _).trans bC
          replace H := ifN H; obtain ⟨c31, H⟩ := H
          have ck := decide_eq_true c31
          clear c31
          replace H := ifN H; obtain ⟨c32, H⟩ := H
          have cl := decide_eq_true c32
          clear c32
          replace H := bnd H; obtain ⟨bv, A33, H⟩ := H
          replace H := ifP H; rcases H with ⟨c34, H⟩ | ⟨c34, H⟩
          ·have bR : decide (0 ≤ bv) = true := decide_eq_true c34
           clear c34
           obtain rfl := smI H
           as_aux_lemma =>
           try go_wp2
           obtain ⟨ad394, e394, hw394, p394, q394⟩ := rd3_75 HR0.out aa (of_decide_eq_true rfA) (of_decide_eq_true rfA)
           cases e394
           obtain ⟨ad407, e407, hw407, p407, q407⟩ := rd3_75 HR0.out (a1) (of_decide_eq_true rfA) (of_decide_eq_true rfA)
           obtain rfl : ad394 = ad407 := (by injection e407)
           have hS := fun (W : World) (HB : Aside0 (Below w.heap.size w W)) => And.intro (s3B HB hw394) (s3B HB hw407)
           refine zS 73 hS HB graftwoodref17_Changes.tab4 graftwoodref17_Changes.bits4 fun w35 HB hHeld HT_ HW_ => ?_
           iterate 4 refine zT HT_ ?_
           refine zL HT_ HW_ hHeld ?_
           refine zC hS HT_ HB Tryz.func17 (graftwoodref04_May.calls k1 ((rd_T75 l0 aa).f0) true _ A4.out) fun w36 HB hHeld => ?_
           refine mN _ ?_
           iterate 6 refine zT HT_ ?_
           refine zL HT_ HW_ hHeld ?_
           iterate 2 refine zT HT_ ?_
           iterate 7 refine zU HT_ ?_
           iterate 7 refine zT HT_ ?_
           refine zL HT_ HW_ hHeld ?_
           iterate 6 refine zT HT_ ?_
           refine zL HT_ HW_ hHeld ?_
           refine zC hS HT_ HB Tryz.func46 (graftwoodref03_May.calls k1 ((rd_T75 l0 aa).f2) true _ A23.out) fun w37 HB hHeld => ?_
           refine mN _ ?_
           iterate 8 refine zT HT_ ?_
           refine zL HT_ HW_ hHeld ?_
           iterate 4 refine zT HT_ ?_
           refine zL HT_ HW_ hHeld ?_
           iterate 11 refine zT HT_ ?_
           refine zL HT_ HW_ hHeld ?_
           iterate 4 refine zT HT_ ?_
           refine zL HT_ HW_ hHeld ?_
           refine zC hS HT_ HB Tryz.func47 (dB (graftwoodref01_Cmp.calls k1 ((rd_T75 l0 (a1)).f0) ((rd_T75 l0 aa).f0) bv _ A33.out)) fun wd HB hHeld => ?_
           refine mN _ ?_
           iterate 3 refine zT HT_ ?_
           refine zD HT_ ?_
           try go_wp2
           go_ret
           exact ⟨by first | rfl | (simp [errW_none, errW_some] <;> rfl) | (simp only [← bC]; first | rfl | (simp [errW_none, errW_some] <;> rfl)) | (simp [*, errW_none, errW_some] <;> rfl), eTx HB.out⟩
          ·have bR : decide (0 ≤ bv) = false := decide_eq_false c34
           clear c34
           have H' := Aside0.mk H
           clear H
           as_aux_lemma =>
           try go_wp2
           obtain ⟨ad394, e394, hw394, p394, q394⟩ := rd3_75 HR0.out aa (of_decide_eq_true rfA) (of_decide_eq_true rfA)
           cases e394
           obtain ⟨ad407, e407, hw407, p407, q407⟩ := rd3_75 HR0.out (a1) (of_decide_eq_true rfA) (of_decide_eq_true rfA)
           obtain rfl : ad394 = ad407 := (by injection e407)
           have hS := fun (W : World) (HB : Aside0 (Below w.heap.size w W)) => And.intro (s3B HB hw394) (s3B HB hw407)
           refine zS 73 hS HB graftwoodref17_Changes.tab4 graftwoodref17_Changes.bits4 fun w38 HB hHeld HT_ HW_ => ?_
           iterate 4 refine zT HT_ ?_
           refine zL HT_ HW_ hHeld ?_
           refine zC hS HT_ HB Tryz.func17 (graftwoodref04_May.calls k1 ((rd_T75 l0 aa).f0) true _ A4.out) fun w39 HB hHeld => ?_
           refine mN _ ?_
           iterate 6 refine zT HT_ ?_
           refine zL HT_ HW_ hHeld ?_
           iterate 2 refine zT HT_ ?_
           iterate 7 refine zU HT_ ?_
           iterate 7 refine zT HT_ ?_
           refine zL HT_ HW_ hHeld ?_
           iterate 6 refine zT HT_ ?_
           refine zL HT_ HW_ hHeld ?_
           refine zC hS HT_ HB Tryz.func46 (graftwoodref03_May.calls k1 ((rd_T75 l0 aa).f2) true _ A23.out) fun w40 HB hHeld => ?_
           refine mN _ ?_
           iterate 8 refine zT HT_ ?_
           refine zL HT_ HW_ hHeld ?_
           iterate 4 refine zT HT_ ?_
           refine zL HT_ HW_ hHeld ?_
           iterate 11 refine zT HT_ ?_
           refine zL HT_ HW_ hHeld ?_
           iterate 4 refine zT HT_ ?_
           refine zL HT_ HW_ hHeld ?_
           refine zC hS HT_ HB Tryz.func47 (dB (graftwoodref01_Cmp.calls k1 ((rd_T75 l0 (a1)).f0) ((rd_T75 l0 aa).f0) bv _ A33.out)) fun wd HB hHeld => ?_
           refine mN _ ?_
           iterate 3 refine zT HT_ ?_
           refine zD HT_ ?_
           try go_wp2
           go_roundg k1
           case measure => have := HK1.out; omega
           case rel => exact ⟨(wrap64 (aa + 1)), rfG, H', ⟨by have := HK1.out; omega⟩, ⟨eTx HB.out⟩⟩
         ·have bP : decide (0 < aa) = false := decide_eq_false c29
          clear c29
          have H' := Aside0.mk H
          clear H
          as_aux_lemma =>
          try go_wp2
          obtain ⟨ad394, e394, hw394, p394, q394⟩ := rd3_75 HR0.out aa (of_decide_eq_true rfA) (of_decide_eq_true rfA)
          cases e394
          have hS := fun (W : World) (HB : Aside0 (Below w.heap.size w W)) => s3B HB hw394
          refine zS 73 hS HB graftwoodref17_Changes.tab4 graftwoodref17_Changes.bits4 fun w41 HB hHeld HT_ HW_ => ?_
          iterate 4 refine zT HT_ ?_
          refine zL HT_ HW_ hHeld ?_
          refine zC hS HT_ HB Tryz.func17 (graftwoodref04_May.calls k1 ((rd_T75 l0 aa).f0) true _ A4.out) fun w42 HB hHeld => ?_
          refine mN _ ?_
          iterate 6 refine zT HT_ ?_
          refine zL HT_ HW_ hHeld ?_
          iterate 2 refine zT HT_ ?_
          iterate 7 refine zU HT_ ?_
          iterate 7 refine zT HT_ ?_
          refine zL HT_ HW_ hHeld ?_
          iterate 6 refine zT HT_ ?_
          refine zL HT_ HW_ hHeld ?_
          refine zC hS HT_ HB Tryz.func46 (graftwoodref03_May.calls k1 ((rd_T75 l0 aa).f2) true _ A23.out) fun w43 HB hHeld => ?_
          refine mN _ ?_
          iterate 8 refine zT HT_ ?_
          refine zL HT_ HW_ hHeld ?_
          iterate 4 refine zT HT_ ?_
          refine zL HT_ HW_ hHeld ?_
          iterate 6 refine zT HT_ ?_
          iterate 13 refine zU HT_ ?_
          iterate 2 refine zT HT_ ?_
          refine zD HT_ ?_
          try go_wp2
          go_roundg k1
          case measure => have := HK1.out; omega
          case rel => exact ⟨(wrap64 (aa + 1)), rfG, H', ⟨by have := HK1.out; omega⟩, ⟨eTx HB.out⟩⟩
       ·obtain rfl := smI H
        as_aux_lemma =>
        try go_wp2
        obtain ⟨ad394, e394, hw394, p394, q394⟩ := rd3_75 HR0.out aa (of_decide_eq_true rfA) (of_decide_eq_true rfA)
        cases e394
        have hS := fun (W : World) (HB : Aside0 (Below w.heap.size w W)) => s3B HB hw394
        refine zS 73 hS HB graftwoodref17_Changes.tab4 graftwoodref17_Changes.bits4 fun w44 HB hHeld HT_ HW_ => ?_
        iterate 4 refine zT HT_ ?_
        refine zL HT_ HW_ hHeld ?_
        refine zC hS HT_ HB Tryz.func17 (graftwoodref04_May.calls k1 ((rd_T75 l0 aa).f0) true _ A4.out) fun w45 HB hHeld => ?_
        refine mN _ ?_
        iterate 6 refine zT HT_ ?_
        refine zL HT_ HW_ hHeld ?_
        iterate 2 refine zT HT_ ?_
        iterate 7 refine zU HT_ ?_
        iterate 7 refine zT HT_ ?_
        refine zL HT_ HW_ hHeld ?_
        iterate 6 refine zT HT_ ?_
        refine zL HT_ HW_ hHeld ?_
        refine zC hS HT_ HB Tryz.func46 (graftwoodref03_May.calls k1 ((rd_T75 l0 aa).f2) false _ A23.out) fun w46 HB hHeld => ?_
        refine mN _ ?_
        iterate 4 refine zT HT_ ?_
        iterate 11 refine zU HT_ ?_
        iterate 2 refine zT HT_ ?_
        iterate 17 refine zU HT_ ?_
        refine zT HT_ ?_
        refine zD HT_ ?_
        try go_wp2
        go_ret
        exact ⟨rfF, eTx HB.out⟩
     ·have b9 := beq_eq_false_iff_ne.mpr c6
      have b_ := bne_iff_ne.mpr c6
      replace H := bnd H; obtain ⟨bH, A47, H⟩ := H
      replace H := ifB H; rcases H with ⟨rfl, H⟩ | ⟨rfl, H⟩
      ·replace H := ifP H; rcases H with ⟨c49, H⟩ | ⟨c49, H⟩
       ·have bU := beq_iff_eq.mpr c49
        have bV := bne_eq_false_iff_eq.mpr c49
        clear c49
        replace H := ifP H; rcases H with ⟨c50, H⟩ | ⟨c50, H⟩
        ·have bW := beq_iff_eq.mpr c50
         have bX := bne_eq_false_iff_eq.mpr c50
         clear c50
         obtain rfl := smI H
         as_aux_lemma =>
         try go_wp2
         obtain ⟨ad394, e394, hw394, p394, q394⟩ := rd3_75 HR0.out aa (of_decide_eq_true rfA) (of_decide_eq_true rfA)
         cases e394
         have hS := fun (W : World) (HB : Aside0 (Below w.heap.size w W)) => s3B HB hw394
         refine zS 73 hS HB graftwoodref17_Changes.tab4 graftwoodref17_Changes.bits4 fun w51 HB hHeld HT_ HW_ => ?_
         iterate 4 refine zT HT_ ?_
         refine zL HT_ HW_ hHeld ?_
         refine zC hS HT_ HB Tryz.func17 (graftwoodref04_May.calls k1 ((rd_T75 l0 aa).f0) true _ A4.out) fun w52 HB hHeld => ?_
         refine mN _ ?_
         iterate 6 refine zT HT_ ?_
         refine zL HT_ HW_ hHeld ?_
         iterate 6 refine zT HT_ ?_
         refine zL HT_ HW_ hHeld ?_
         refine zC hS HT_ HB Tryz.func46 (graftwoodref03_May.calls k1 ((rd_T75 l0 aa).f1) true _ A47.out) fun w53 HB hHeld => ?_
         refine mN _ ?_
         iterate 8 refine zT HT_ ?_
         refine zL HT_ HW_ hHeld ?_
         iterate 2 refine zT HT_ ?_
         iterate 7 refine zU HT_ ?_
         iterate 7 refine zT HT_ ?_
         refine zL HT_ HW_ hHeld ?_
         iterate 4 refine zT HT_ ?_
         refine zL HT_ HW_ hHeld ?_
         iterate 3 refine zT HT_ ?_
         iterate 17 refine zU HT_ ?_
         refine zT HT_ ?_
         refine zD HT_ ?_
         try go_wp2
         go_ret
         exact ⟨rfF, eTx HB.out⟩
        ·have bW := beq_eq_false_iff_ne.mpr c50
         have bX := bne_iff_ne.mpr c50
         replace H := ifP H; rcases H with ⟨c54, H⟩ | ⟨c54, H⟩
         ·have bZ : decide (0 < aa) = true := decide_eq_true c54
          clear c54
          obtain ⟨a2, bD⟩ : ∃ j_ : Int, (wrap64 (aa - 1)) = j_ := ⟨_, rfl⟩
          replace H : (if 0 ≤ (a2) then (if (a2) < (l0.length : Int) then ((graftwoodref01_Cmp.f k1 ((rd_T75 l0 (a2)).f0) ((rd_T75 l0 aa).f0)).bind fun bw => (if bw ≥ 0 then (some false) else (graftwoodref17_Changes.l0 k1 l0 (wrap64 (aa + 1))))) else (none)) else (none)) = some r := by first | (rw [bD] at H; exact H) | (simp only [bD] at H ⊢; exact H)
          (try rw [bD] at A4)
          (try rw [bD] at A47)
          have cg : (IntKind.i64.wrap (aa - 1)) = a2 := (i64_w _).trans bD
          replace H := ifN H; obtain ⟨c56, H⟩ := H
          have cm := decide_eq_true c56
          clear c56
          replace H := ifN H; obtain ⟨c57, H⟩ := H
          have cn := decide_eq_true c57
          clear c57
          replace H := bnd H; obtain ⟨bw, A58, H⟩ := H
          replace H := ifP H; rcases H with ⟨c59, H⟩ | ⟨c59, H⟩
          ·have b1 : decide (0 ≤ bw) = true := decide_eq_true c59
           clear c59
           obtain rfl := smI H
           as_aux_lemma =>
           try go_wp2
           obtain ⟨ad394, e394, hw394, p394, q394⟩ := rd3_75 HR0.out aa (of_decide_eq_true rfA) (of_decide_eq_true rfA)
           cases e394
           obtain ⟨ad415, e415, hw415, p415, q415⟩ := rd3_75 HR0.out (a2) (of_decide_eq_true rfA) (of_decide_eq_true rfA)
           obtain rfl : ad394 = ad415 := (by injection e415)
           have hS := fun (W : World) (HB : Aside0 (Below w.heap.size w W)) => And.intro (s3B HB hw394) (s3B HB hw415)
           refine zS 73 hS HB graftwoodref17_Changes.tab4 graftwoodref17_Changes.bits4 fun w60 HB hHeld HT_ HW_ => ?_
           iterate 4 refine zT HT_ ?_
           refine zL HT_ HW_ hHeld ?_
           refine zC hS HT_ HB Tryz.func17 (graftwoodref04_May.calls k1 ((rd_T75 l0 aa).f0) true _ A4.out) fun w61 HB hHeld => ?_
           refine mN _ ?_
           iterate 6 refine zT HT_ ?_
           refine zL HT_ HW_ hHeld ?_
           iterate 6 refine zT HT_ ?_
           refine zL HT_ HW_ hHeld ?_
           refine zC hS HT_ HB Tryz.func46 (graftwoodref03_May.calls k1 ((rd_T75 l0 aa).f1) true _ A47.out) fun w62 HB hHeld => ?_
           refine mN _ ?_
           iterate 8 refine zT HT_ ?_
           refine zL HT_ HW_ hHeld ?_
           iterate 2 refine zT HT_ ?_
           iterate 7 refine zU HT_ ?_
           iterate 7 refine zT HT_ ?_
           refine zL HT_ HW_ hHeld ?_
           iterate 4 refine zT HT_ ?_
           refine zL HT_ HW_ hHeld ?_
           iterate 11 refine zT HT_ ?_
           refine zL HT_ HW_ hHeld ?_
           iterate 4 refine zT HT_ ?_
           refine zL HT_ HW_ hHeld ?_
           refine zC hS HT_ HB Tryz.func47 (dB (graftwoodref01_Cmp.calls k1 ((rd_T75 l0 (a2)).f0) ((rd_T75 l0 aa).f0) bw _ A58.out)) fun wd HB hHeld => ?_
           refine mN _ ?_
           iterate 3 refine zT HT_ ?_
           refine zD HT_ ?_
           try go_wp2
           go_ret
           exact ⟨by first | rfl | (simp [errW_none, errW_some] <;> rfl) | (simp only [← bD]; first | rfl | (simp [errW_none, errW_some] <;> rfl)) | (simp [*, errW_none, errW_some] <;> rfl), eTx HB.out⟩
          ·have b1 : decide (0 ≤ bw) = false := decide_eq_false c59
           clear c59
           have H' := Aside0.mk H
           clear H
           as_aux_lemma =>
           try go_wp2
           obtain ⟨ad394, e394, hw394, p394, q394⟩ := rd3_75 HR0.out aa (of_decide_eq_true rfA) (of_decide_eq_true rfA)
           cases e394
           obtain ⟨ad415, e415, hw415, p415, q415⟩ := rd3_75 HR0.out (a2) (of_decide_eq_true rfA) (of_decide_eq_true rfA)
           obtain rfl : ad394 = ad415 := (by injection e415)
           have hS := fun (W : World) (HB : Aside0 (Below w.heap.size w W)) => And.intro (s3B HB hw394) (s3B HB hw415)
           refine zS 73 hS HB graftwoodref17_Changes.tab4 graftwoodref17_Changes.bits4 fun w63 HB hHeld HT_ HW_ => ?_
           iterate 4 refine zT HT_ ?_
           refine zL HT_ HW_ hHeld ?_
           refine zC hS HT_ HB Tryz.func17 (graftwoodref04_May.calls k1 ((rd_T75 l0 aa).f0) true _ A4.out) fun w64 HB hHeld => ?_
           refine mN _ ?_
           iterate 6 refine zT HT_ ?_
           refine zL HT_ HW_ hHeld ?_
           iterate 6 refine zT HT_ ?_
           refine zL HT_ HW_ hHeld ?_
           refine zC hS HT_ HB Tryz.func46 (graftwoodref03_May.calls k1 ((rd_T75 l0 aa).f1) true _ A47.out) fun w65 HB hHeld => ?_
           refine mN _ ?_
           iterate 8 refine zT HT_ ?_
           refine zL HT_ HW_ hHeld ?_
           iterate 2 refine zT HT_ ?_
           iterate 7 refine zU HT_ ?_
           iterate 7 refine zT HT_ ?_
           refine zL HT_ HW_ hHeld ?_
           iterate 4 refine zT HT_ ?_
           refine zL HT_ HW_ hHeld ?_
           iterate 11 refine zT HT_ ?_
           refine zL HT_ HW_ hHeld ?_
           iterate 4 refine zT HT_ ?_
           refine zL HT_ HW_ hHeld ?_
           refine zC hS HT_ HB Tryz.func47 (dB (graftwoodref01_Cmp.calls k1 ((rd_T75 l0 (a2)).f0) ((rd_T75 l0 aa).f0) bw _ A58.out)) fun wd HB hHeld => ?_
           refine mN _ ?_
           iterate 3 refine zT HT_ ?_
           refine zD HT_ ?_
           try go_wp2
           go_roundg k1
           case measure => have := HK1.out; omega
           case rel => exact ⟨(wrap64 (aa + 1)), rfG, H', ⟨by have := HK1.out; omega⟩, ⟨eTx HB.out⟩⟩
         ·have bZ : decide (0 < aa) = false := decide_eq_false c54
          clear c54
          have H' := Aside0.mk H
          clear H
          as_aux_lemma =>
          try go_wp2
          obtain ⟨ad394, e394, hw394, p394, q394⟩ := rd3_75 HR0.out aa (of_decide_eq_true rfA) (of_decide_eq_true rfA)
          cases e394
          have hS := fun (W : World) (HB : Aside0 (Below w.heap.size w W)) => s3B HB hw394
          refine zS 73 hS HB graftwoodref17_Changes.tab4 graftwoodref17_Changes.bits4 fun w66 HB hHeld HT_ HW_ => ?_
          iterate 4 refine zT HT_ ?_
          refine zL HT_ HW_ hHeld ?_
          refine zC hS HT_ HB Tryz.func17 (graftwoodref04_May.calls k1 ((rd_T75 l0 aa).f0) true _ A4.out) fun w67 HB hHeld => ?_
          refine mN _ ?_
          iterate 6 refine zT HT_ ?_
          refine zL HT_ HW_ hHeld ?_
          iterate 6 refine zT HT_ ?_
          refine zL HT_ HW_ hHeld ?_
          refine zC hS HT_ HB Tryz.func46 (graftwoodref03_May.calls k1 ((rd_T75 l0 aa).f1) true _ A47.out) fun w68 HB hHeld => ?_
          refine mN _ ?_
          iterate 8 refine zT HT_ ?_
          refine zL HT_ HW_ hHeld ?_
          iterate 2 refine zT HT_ ?_
          iterate 7 refine zU HT_ ?_
          iterate 7 refine zT HT_ ?_
          refine zL HT_ HW_ hHeld ?_
          iterate 4 refine zT HT_ ?_
          refine zL HT_ HW_ hHeld ?_
          iterate 6 refine zT HT_ ?_
          iterate 13 refine zU HT_ ?_
          iterate 2 refine zT HT_ ?_
          refine zD HT_ ?_
          try go_wp2
          go_roundg k1
          case measure => have := HK1.out; omega
          case rel => exact ⟨(wrap64 (aa + 1)), rfG, H', ⟨by have := HK1.out; omega⟩, ⟨eTx HB.out⟩⟩
       ·have bU := beq_eq_false_iff_ne.mpr c49
        have bV := bne_iff_ne.mpr c49
        replace H := bnd H; obtain ⟨bE, A69, H⟩ := H
        replace H := ifB H; rcases H with ⟨rfl, H⟩ | ⟨rfl, H⟩
        ·replace H := ifP H; rcases H with ⟨c71, H⟩ | ⟨c71, H⟩
         ·have b3 := beq_iff_eq.mpr c71
          have b4 := bne_eq_false_iff_eq.mpr c71
          clear c71
          obtain rfl := smI H
          as_aux_lemma =>
          try go_wp2
          obtain ⟨ad394, e394, hw394, p394, q394⟩ := rd3_75 HR0.out aa (of_decide_eq_true rfA) (of_decide_eq_true rfA)
          cases e394
          have hS := fun (W : World) (HB : Aside0 (Below w.heap.size w W)) => s3B HB hw394
          refine zS 73 hS HB graftwoodref17_Changes.tab4 graftwoodref17_Changes.bits4 fun w72 HB hHeld HT_ HW_ => ?_
          iterate 4 refine zT HT_ ?_
          refine zL HT_ HW_ hHeld ?_
          refine zC hS HT_ HB Tryz.func17 (graftwoodref04_May.calls k1 ((rd_T75 l0 aa).f0) true _ A4.out) fun w73 HB hHeld => ?_
          refine mN _ ?_
          iterate 6 refine zT HT_ ?_
          refine zL HT_ HW_ hHeld ?_
          iterate 6 refine zT HT_ ?_
          refine zL HT_ HW_ hHeld ?_
          refine zC hS HT_ HB Tryz.func46 (graftwoodref03_May.calls k1 ((rd_T75 l0 aa).f1) true _ A47.out) fun w74 HB hHeld => ?_
          refine mN _ ?_
          iterate 8 refine zT HT_ ?_
          refine zL HT_ HW_ hHeld ?_
          iterate 6 refine zT HT_ ?_
          refine zL HT_ HW_ hHeld ?_
          refine zC hS HT_ HB Tryz.func46 (graftwoodref03_May.calls k1 ((rd_T75 l0 aa).f2) true _ A69.out) fun w75 HB hHeld => ?_
          refine mN _ ?_
          iterate 8 refine zT HT_ ?_
          refine zL HT_ HW_ hHeld ?_
          iterate 4 refine zT HT_ ?_
          refine zL HT_ HW_ hHeld ?_
          iterate 3 refine zT HT_ ?_
          iterate 17 refine zU HT_ ?_
          refine zT HT_ ?_
          refine zD HT_ ?_
          try go_wp2
          go_ret
          exact ⟨rfF, eTx HB.out⟩
         ·have b3 := beq_eq_false_iff_ne.mpr c71
          have b4 := bne_iff_ne.mpr c71
          replace H := ifP H; rcases H with ⟨c76, H⟩ | ⟨c76, H⟩
          ·have b5 : decide (0 < aa) = true := decide_eq_true c76
           clear c76
           obtain ⟨a3, bz⟩ : ∃ j_ : Int, (wrap64 (aa - 1)) = j_ := ⟨_, rfl⟩
           replace H : (if 0 ≤ (a3) then (if (a3) < (l0.length : Int) then ((graftwoodref01_Cmp.f k1 ((rd_T75 l0 (a3)).f0) ((rd_T75 l0 aa).f0)).bind fun bu => (if bu ≥ 0 then (some false) else (graftwoodref17_Changes.l0 k1 l0 (wrap64 (aa + 1))))) else (none)) else (none)) = some r := by first | (rw [bz] at H; exact H) | (simp only [bz] at H ⊢; exact H)
           (try rw [bz] at A4)
           (try rw [bz] at A47)
           (try rw [bz] at A69)
           have ch : (IntKind.i64.wrap (aa - 1)) = a3 := (i64_w _).trans bz
           replace H := ifN H; obtain ⟨c78, H⟩ := H
           have co := decide_eq_true c78
           clear c78
           replace H := ifN H; obtain ⟨c79, H⟩ := H
           have cp := decide_eq_true c79
           clear c79
           replace H := bnd H; obtain ⟨bu, A80, H⟩ := H
           replace H := ifP H; rcases H with ⟨c81, H⟩ | ⟨c81, H⟩
           ·have b7 : decide (0 ≤ bu) = true := decide_eq_true c81
            clear c81
            obtain rfl := smI H
            as_aux_lemma =>
            try go_wp2
            obtain ⟨ad394, e394, hw394, p394, q394⟩ := rd3_75 HR0.out aa (of_decide_eq_true rfA) (of_decide_eq_true rfA)
            cases e394
            obtain ⟨ad422, e422, hw422, p422, q422⟩ := rd3_75 HR0.out (a3) (of_decide_eq_true rfA) (of_decide_eq_true rfA)
            obtain rfl : ad394 = ad422 := (by injection e422)
            have hS := fun (W : World) (HB : Aside0 (Below w.heap.size w W)) => And.intro (s3B HB hw394) (s3B HB hw422)
            refine zS 73 hS HB graftwoodref17_Changes.tab4 graftwoodref17_Changes.bits4 fun w82 HB hHeld HT_ HW_ => ?_
            iterate 4 refine zT HT_ ?_
            refine zL HT_ HW_ hHeld ?_
            refine zC hS HT_ HB Tryz.func17 (graftwoodref04_May.calls k1 ((rd_T75 l0 aa).f0) true _ A4.out) fun w83 HB hHeld => ?_
            refine mN _ ?_
            iterate 6 refine zT HT_ ?_
            refine zL HT_ HW_ hHeld ?_
            iterate 6 refine zT HT_ ?_
            refine zL HT_ HW_ hHeld ?_
            refine zC hS HT_ HB Tryz.func46 (graftwoodref03_May.calls k1 ((rd_T75 l0 aa).f1) true _ A47.out) fun w84 HB hHeld => ?_
            refine mN _ ?_
            iterate 8 refine zT HT_ ?_
            refine zL HT_ HW_ hHeld ?_
            iterate 6 refine zT HT_ ?_
            refine zL HT_ HW_ hHeld ?_
            refine zC hS HT_ HB Tryz.func46 (graftwoodref03_May.calls k1 ((rd_T75 l0 aa).f2) true _ A69.out) fun w85 HB hHeld => ?_
            refine mN _ ?_
            iterate 8 refine zT HT_ ?_
            refine zL HT_ HW_ hHeld ?_
            iterate 4 refine zT HT_ ?_
            refine zL HT_ HW_ hHeld ?_
            iterate 11 refine zT HT_ ?_
            refine zL HT_ HW_ hHeld ?_
            iterate 4 refine zT HT_ ?_
            refine zL HT_ HW_ hHeld ?_
            refine zC hS HT_ HB Tryz.func47 (dB (graftwoodref01_Cmp.calls k1 ((rd_T75 l0 (a3)).f0) ((rd_T75 l0 aa).f0) bu _ A80.out)) fun wd HB hHeld => ?_
            refine mN _ ?_
            iterate 3 refine zT HT_ ?_
            refine zD HT_ ?_
            try go_wp2
            go_ret
            exact ⟨by first | rfl | (simp [errW_none, errW_some] <;> rfl) | (simp only [← bz]; first | rfl | (simp [errW_none, errW_some] <;> rfl)) | (simp [*, errW_none, errW_some] <;> rfl), eTx HB.out⟩
           ·have b7 : decide (0 ≤ bu) = false := decide_eq_false c81
            clear c81
            have H' := Aside0.mk H
            clear H
            as_aux_lemma =>
            try go_wp2
            obtain ⟨ad394, e394, hw394, p394, q394⟩ := rd3_75 HR0.out aa (of_decide_eq_true rfA) (of_decide_eq_true rfA)
            cases e394
            obtain ⟨ad422, e422, hw422, p422, q422⟩ := rd3_75 HR0.out (a3) (of_decide_eq_true rfA) (of_decide_eq_true rfA)
            obtain rfl : ad394 = ad422 := (by injection e422)
            have hS := fun (W : World) (HB : Aside0 (Below w.heap.size w W)) => And.intro (s3B HB hw394) (s3B HB hw422)
            refine zS 73 hS HB graftwoodref17_Changes.tab4 graftwoodref17_Changes.bits4 fun w86 HB hHeld HT_ HW_ => ?_
            iterate 4 refine zT HT_ ?_
            refine zL HT_ HW_ hHeld ?_
            refine zC hS HT_ HB Tryz.func17 (graftwoodref04_May.calls k1 ((rd_T75 l0 aa).f0) true _ A4.out) fun w87 HB hHeld => ?_
            refine mN _ ?_
            iterate 6 refine zT HT_ ?_
            refine zL HT_ HW_ hHeld ?_
            iterate 6 refine zT HT_ ?_
            refine zL HT_ HW_ hHeld ?_
            refine zC hS HT_ HB Tryz.func46 (graftwoodref03_May.calls k1 ((rd_T75 l0 aa).f1) true _ A47.out) fun w88 HB hHeld => ?_
            refine mN _ ?_
            iterate 8 refine zT HT_ ?_
            refine zL HT_ HW_ hHeld ?_
            iterate 6 refine zT HT_ ?_
            refine zL HT_ HW_ hHeld ?_
            refine zC hS HT_ HB Tryz.func46 (graftwoodref03_May.calls k1 ((rd_T75 l0 aa).f2) true _ A69.out) fun w89 HB hHeld => ?_
            refine mN _ ?_
            iterate 8 refine zT HT_ ?_
            refine zL HT_ HW_ hHeld ?_
            iterate 4 refine zT HT_ ?_
            refine zL HT_ HW_ hHeld ?_
            iterate 11 refine zT HT_ ?_
            refine zL HT_ HW_ hHeld ?_
            iterate 4 refine zT HT_ ?_
            refine zL HT_ HW_ hHeld ?_
            refine zC hS HT_ HB Tryz.func47 (dB (graftwoodref01_Cmp.calls k1 ((rd_T75 l0 (a3)).f0) ((rd_T75 l0 aa).f0) bu _ A80.out)) fun wd HB hHeld => ?_
            refine mN _ ?_
            iterate 3 refine zT HT_ ?_
            refine zD HT_ ?_
            try go_wp2
            go_roundg k1
            case measure => have := HK1.out; omega
            case rel => exact ⟨(wrap64 (aa + 1)), rfG, H', ⟨by have := HK1.out; omega⟩, ⟨eTx HB.out⟩⟩
          ·have b5 : decide (0 < aa) = false := decide_eq_false c76
           clear c76
           have H' := Aside0.mk H
           clear H
           as_aux_lemma =>
           try go_wp2
           obtain ⟨ad394, e394, hw394, p394, q394⟩ := rd3_75 HR0.out aa (of_decide_eq_true rfA) (of_decide_eq_true rfA)
           cases e394
           have hS := fun (W : World) (HB : Aside0 (Below w.heap.size w W)) => s3B HB hw394
           refine zS 73 hS HB graftwoodref17_Changes.tab4 graftwoodref17_Changes.bits4 fun w90 HB hHeld HT_ HW_ => ?_
           iterate 4 refine zT HT_ ?_
           refine zL HT_ HW_ hHeld ?_
           refine zC hS HT_ HB Tryz.func17 (graftwoodref04_May.calls k1 ((rd_T75 l0 aa).f0) true _ A4.out) fun w91 HB hHeld => ?_
           refine mN _ ?_
           iterate 6 refine zT HT_ ?_
           refine zL HT_ HW_ hHeld ?_
           iterate 6 refine zT HT_ ?_
           refine zL HT_ HW_ hHeld ?_
           refine zC hS HT_ HB Tryz.func46 (graftwoodref03_May.calls k1 ((rd_T75 l0 aa).f1) true _ A47.out) fun w92 HB hHeld => ?_
           refine mN _ ?_
           iterate 8 refine zT HT_ ?_
           refine zL HT_ HW_ hHeld ?_
           iterate 6 refine zT HT_ ?_
           refine zL HT_ HW_ hHeld ?_
           refine zC hS HT_ HB Tryz.func46 (graftwoodref03_May.calls k1 ((rd_T75 l0 aa).f2) true _ A69.out) fun w93 HB hHeld => ?_
           refine mN _ ?_
           iterate 8 refine zT HT_ ?_
           refine zL HT_ HW_ hHeld ?_
           iterate 4 refine zT HT_ ?_
           refine zL HT_ HW_ hHeld ?_
           iterate 6 refine zT HT_ ?_
           iterate 13 refine zU HT_ ?_
           iterate 2 refine zT HT_ ?_
           refine zD HT_ ?_
           try go_wp2
           go_roundg k1
           case measure => have := HK1.out; omega
           case rel => exact ⟨(wrap64 (aa + 1)), rfG, H', ⟨by have := HK1.out; omega⟩, ⟨eTx HB.out⟩⟩
        ·obtain rfl := smI H
         as_aux_lemma =>
         try go_wp2
         obtain ⟨ad394, e394, hw394, p394, q394⟩ := rd3_75 HR0.out aa (of_decide_eq_true rfA) (of_decide_eq_true rfA)
         cases e394
         have hS := fun (W : World) (HB : Aside0 (Below w.heap.size w W)) => s3B HB hw394
         refine zS 73 hS HB graftwoodref17_Changes.tab4 graftwoodref17_Changes.bits4 fun w94 HB hHeld HT_ HW_ => ?_
         iterate 4 refine zT HT_ ?_
         refine zL HT_ HW_ hHeld ?_
         refine zC hS HT_ HB Tryz.func17 (graftwoodref04_May.calls k1 ((rd_T75 l0 aa).f0) true _ A4.out) fun w95 HB hHeld => ?_
         refine mN _ ?_
         iterate 6 refine zT HT_ ?_
         refine zL HT_ HW_ hHeld ?_
         iterate 6 refine zT HT_ ?_
         refine zL HT_ HW_ hHeld ?_
         refine zC hS HT_ HB Tryz.func46 (graftwoodref03_May.calls k1 ((rd_T75 l0 aa).f1) true _ A47.out) fun w96 HB hHeld => ?_
         refine mN _ ?_
         iterate 8 refine zT HT_ ?_
         refine zL HT_ HW_ hHeld ?_
         iterate 6 refine zT HT_ ?_
         refine zL HT_ HW_ hHeld ?_
         refine zC hS HT_ HB Tryz.func46 (graftwoodref03_May.calls k1 ((rd_T75 l0 aa).f2) false _ A69.out) fun w97 HB hHeld => ?_
         refine mN _ ?_
         iterate 4 refine zT HT_ ?_
         iterate 11 refine zU HT_ ?_
         iterate 2 refine zT HT_ ?_
         iterate 17 refine zU HT_ ?_
         refine zT HT_ ?_
         refine zD HT_ ?_
         try go_wp2
         go_ret
         exact ⟨rfF, eTx HB.out⟩
      ·obtain rfl := smI H
       as_aux_lemma =>
       try go_wp2
       obtain ⟨ad394, e394, hw394, p394, q394⟩ := rd3_75 HR0.out aa (of_decide_eq_true rfA) (of_decide_eq_true rfA)
       cases e394
       have hS := fun (W : World) (HB : Aside0 (Below w.heap.size w W)) => s3B HB hw394
       refine zS 73 hS HB graftwoodref17_Changes.tab4 graftwoodref17_Changes.bits4 fun w98 HB hHeld HT_ HW_ => ?_
       iterate 4 refine zT HT_ ?_
       refine zL HT_ HW_ hHeld ?_
       refine zC hS HT_ HB Tryz.func17 (graftwoodref04_May.calls k1 ((rd_T75 l0 aa).f0) true _ A4.out) fun w99 HB hHeld => ?_
       refine mN _ ?_
       iterate 6 refine zT HT_ ?_
       refine zL HT_ HW_ hHeld ?_
       iterate 6 refine zT HT_ ?_
       refine zL HT_ HW_ hHeld ?_
       refine zC hS HT_ HB Tryz.func46 (graftwoodref03_May.calls k1 ((rd_T75 l0 aa).f1) false _ A47.out) fun cr HB hHeld => ?_
       refine mN _ ?_
       iterate 4 refine zT HT_ ?_
       iterate 15 refine zU HT_ ?_
       iterate 2 refine zT HT_ ?_
       iterate 11 refine zU HT_ ?_
       iterate 2 refine zT HT_ ?_
       iterate 17 refine zU HT_ ?_
       refine zT HT_ ?_
       refine zD HT_ ?_
       try go_wp2
       go_ret
       exact ⟨rfF, eTx HB.out⟩
    ·obtain rfl := smI H
     as_aux_lemma =>
     try go_wp2
     obtain ⟨ad394, e394, hw394, p394, q394⟩ := rd3_75 HR0.out aa (of_decide_eq_true rfA) (of_decide_eq_true rfA)
     cases e394
     have hS := fun (W : World) (HB : Aside0 (Below w.heap.size w W)) => s3B HB hw394
     refine zS 73 hS HB graftwoodref17_Changes.tab4 graftwoodref17_Changes.bits4 fun cs HB hHeld HT_ HW_ => ?_
     iterate 4 refine zT HT_ ?_
     refine zL HT_ HW_ hHeld ?_
     refine zC hS HT_ HB Tryz.func17 (graftwoodref04_May.calls k1 ((rd_T75 l0 aa).f0) false _ A4.out) fun ct HB hHeld => ?_
     refine mN _ ?_
     iterate 2 refine zT HT_ ?_
     iterate 15 refine zU HT_ ?_
     iterate 2 refine zT HT_ ?_
     iterate 15 refine zU HT_ ?_
     iterate 2 refine zT HT_ ?_
     iterate 11 refine zU HT_ ?_
     iterate 2 refine zT HT_ ?_
     iterate 17 refine zU HT_ ?_
     refine zT HT_ ?_
     refine zD HT_ ?_
     try go_wp2
     go_ret
     exact ⟨rfF, eTx HB.out⟩
   ·have b8 := decide_eq_false c2
    clear c2
    obtain rfl := smI H
    go_wp2
    go_ret
    exact ⟨rfF, eTx HB.out⟩

end Go.Proofs.YtknmfmedklfepaaGreatDoor.P
