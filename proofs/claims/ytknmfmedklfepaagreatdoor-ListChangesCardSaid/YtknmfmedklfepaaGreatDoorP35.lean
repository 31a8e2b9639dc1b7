-- half the indentation
import Derived.Test.YtknmfmedklfepaaGreatDoorReg
import Derived.Test.YtknmfmedklfepaaGreatDoorSqz
import Derived.Test.YtknmfmedklfepaaGreatDoorP0
import Derived.Test.YtknmfmedklfepaaGreatDoorP34
namespace Go.Proofs.YtknmfmedklfepaaGreatDoor.P
open Go.RowKit Go.Proofs.YtknmfmedklfepaaGreatDoorW.PrintWords Go.Proofs.YtknmfmedklfepaaGreatDoorW.PrintLast Go.Proofs.YtknmfmedklfepaaGreatDoorW.PrintMore
attribute [local go_sem] max2_int min2_int max_two min_two max_three min_three max_four min_four
set_option linter.unusedVariables false
set_option linter.unusedSimpArgs false
set_option maxHeartbeats 8000000
set_option maxRecDepth 100000

/-! ### graftwoodref17_Apply: function 26 -/
mutual
def graftwoodref17_Apply.l0 : Nat → List (S55) → List (S75) → List (S55) → Int → Option ((List (S55)) × Bool)
 | 0, _, _, _, _ => none
 | k + 1, x0, x1, x6, x7 => if x7 < (x0.length : Int) then (if 0 ≤ x7 then (if x6.length < 4398046511104 then (graftwoodref17_Apply.l0 k x0 x1 (x6 ++ [(⟨(rd_T55 x0 x7).f0, (rd_T55 x0 x7).f1⟩ : S55)]) (wrap64 (x7 + 1))) else (none)) else (none)) else (graftwoodref17_Apply.l1 k x0 x1 x6 0)
def graftwoodref17_Apply.l1 : Nat → List (S55) → List (S75) → List (S55) → Int → Option ((List (S55)) × Bool)
 | 0, _, _, _, _ => none
 | k + 1, x0, x1, x6, x8 => if x8 < (x1.length : Int) then (if 0 ≤ x8 then ((graftwoodref17_Pick.f k x0 ((rd_T75 x1 x8).f0)).bind fun aY => (if aY.toList = ((rd_T75 x1 x8).f1).toList then (if ((rd_T75 x1 x8).f1).toList = ([] : List UInt8) then (if ((rd_T75 x1 x8).f2).toList = ([] : List UInt8) then (graftwoodref17_Apply.l1 k x0 x1 x6 (wrap64 (x8 + 1))) else ((graftwoodref05_With.f k x6 ((rd_T75 x1 x8).f0) ((rd_T75 x1 x8).f2)).bind fun a6 => (graftwoodref17_Apply.l1 k x0 x1 a6 (wrap64 (x8 + 1))))) else ((graftwoodref05_Minus.f k x6 (([(⟨(rd_T75 x1 x8).f0, (rd_T75 x1 x8).f1⟩ : S55)] : List (S55)))).bind fun aG => (if ((rd_T75 x1 x8).f2).toList = ([] : List UInt8) then (graftwoodref17_Apply.l1 k x0 x1 aG (wrap64 (x8 + 1))) else ((graftwoodref05_With.f k aG ((rd_T75 x1 x8).f0) ((rd_T75 x1 x8).f2)).bind fun a3 => (graftwoodref17_Apply.l1 k x0 x1 a3 (wrap64 (x8 + 1))))))) else (some (([] : List (S55)), false)))) else (none)) else (some (x6, true))
end
def graftwoodref17_Apply.f (k : Nat) (l0 : List (S55)) (l1 : List (S75)) : Option ((List (S55)) × Bool) := graftwoodref17_Apply.l0 k l0 l1 ([] : List (S55)) 0
theorem graftwoodref17_Apply.mono_l : ∀ k, (∀ y0 y1 y2 y3, LeO (graftwoodref17_Apply.l0 k y0 y1 y2 y3) (graftwoodref17_Apply.l0 (k + 1) y0 y1 y2 y3)) ∧ (∀ y0 y1 y2 y3, LeO (graftwoodref17_Apply.l1 k y0 y1 y2 y3) (graftwoodref17_Apply.l1 (k + 1) y0 y1 y2 y3))
 | 0 => ⟨fun _ _ _ _ r h => by simp [graftwoodref17_Apply.l0] at h, fun _ _ _ _ r h => by simp [graftwoodref17_Apply.l1] at h⟩
 | k + 1 => by
  obtain ⟨ih0, ih1⟩ := graftwoodref17_Apply.mono_l k
  refine ⟨?_, ?_⟩
  ·intro y0 y1 y2 y3
   unfold graftwoodref17_Apply.l0
   repeat' first | (with_reducible first | apply ih0 | apply ih1 | apply graftwoodref05_Minus.mono | apply graftwoodref05_With.mono | apply graftwoodref17_Pick.mono | apply LeO.refl | apply LeO.none | apply LeO.ite | refine LeO.bind ?_ (fun _ => ?_)) | apply ih0 | apply ih1 | apply graftwoodref05_Minus.mono | apply graftwoodref05_With.mono | apply graftwoodref17_Pick.mono | exact LeO.none _ | refine LeO.ite ?_ ?_ | refine LeO.bind ?_ (fun _ => ?_)
  ·intro y0 y1 y2 y3
   unfold graftwoodref17_Apply.l1
   repeat' first | (with_reducible first | apply ih0 | apply ih1 | apply graftwoodref05_Minus.mono | apply graftwoodref05_With.mono | apply graftwoodref17_Pick.mono | apply LeO.refl | apply LeO.none | apply LeO.ite | refine LeO.bind ?_ (fun _ => ?_)) | apply ih0 | apply ih1 | apply graftwoodref05_Minus.mono | apply graftwoodref05_With.mono | apply graftwoodref17_Pick.mono | exact LeO.none _ | refine LeO.ite ?_ ?_ | refine LeO.bind ?_ (fun _ => ?_)
theorem graftwoodref17_Apply.mono : ∀ a0 a1 k, LeO (graftwoodref17_Apply.f k a0 a1) (graftwoodref17_Apply.f (k + 1) a0 a1) := by
 intro a0 a1 k
 obtain ⟨ih0, ih1⟩ := graftwoodref17_Apply.mono_l k
 unfold graftwoodref17_Apply.f
 repeat' first | (with_reducible first | apply ih0 | apply ih1 | apply graftwoodref05_Minus.mono | apply graftwoodref05_With.mono | apply graftwoodref17_Pick.mono | apply LeO.refl | apply LeO.none | apply LeO.ite | refine LeO.bind ?_ (fun _ => ?_)) | apply ih0 | apply ih1 | apply graftwoodref05_Minus.mono | apply graftwoodref05_With.mono | apply graftwoodref17_Pick.mono | exact LeO.none _ | refine LeO.ite ?_ ?_ | refine LeO.bind ?_ (fun _ => ?_)
def graftwoodref17_Apply.T9 : Bool × List (List Nat × List Nat) := (true, [([], []), ([], []), ([], []), ([1, 2], [1, 2]), ([3], [3]), ([4], [4]), ([0, 5], [0, 5]), ([], []), ([], []), ([7, 8], [7, 8]), ([9], [9]), ([10], [10]), ([6, 11], [6, 11])])
def graftwoodref17_Apply.B9 : List Nat := [0, 0, 0, 6, 14, 30, 63, 0, 0, 384, 896, 1920, 4095]
theorem graftwoodref17_Apply.tab9 : rtab .any (opsOf Tryz.f26 9) = graftwoodref17_Apply.T9 := by kernel_rfl
theorem graftwoodref17_Apply.bits9 : waitsOk graftwoodref17_Apply.T9.2 graftwoodref17_Apply.B9 = true := by kernel_rfl
def graftwoodref17_Apply.T12 : Bool × List (List Nat × List Nat) := (true, [([], []), ([], []), ([], []), ([1, 2], [1, 2]), ([3], [3]), ([4], [4]), ([], []), ([], []), ([6, 7], [6, 7]), ([8], [8]), ([9], [9]), ([5, 10], [5, 10]), ([11], [11]), ([0, 12], [0, 12]), ([13, 13, 0, 1, 2, 3, 4, 5, 6, 7, 8, 9, 10, 11, 12, 13], [0, 13])])
def graftwoodref17_Apply.B12 : List Nat := [0, 0, 0, 6, 14, 30, 0, 0, 192, 448, 960, 2046, 4094, 8191, 16383]
theorem graftwoodref17_Apply.tab12 : rtab .any (opsOf Tryz.f26 12) = graftwoodref17_Apply.T12 := by kernel_rfl
theorem graftwoodref17_Apply.bits12 : waitsOk graftwoodref17_Apply.T12.2 graftwoodref17_Apply.B12 = true := by kernel_rfl
def graftwoodref17_Apply.T14 : Bool × List (List Nat × List Nat) := (true, [([], []), ([], []), ([], []), ([1, 2], [1, 2]), ([3], [3]), ([4], [4]), ([], []), ([], []), ([6, 7], [6, 7]), ([8], [8]), ([9], [9]), ([5, 10], [5, 10]), ([0, 11], [0, 11]), ([12, 12, 0, 1, 2, 3, 4, 5, 6, 7, 8, 9, 10, 11, 12], [0, 12])])
def graftwoodref17_Apply.B14 : List Nat := [0, 0, 0, 6, 14, 30, 0, 0, 192, 448, 960, 2046, 4095, 8191]
theorem graftwoodref17_Apply.tab14 : rtab .any (opsOf Tryz.f26 14) = graftwoodref17_Apply.T14 := by kernel_rfl
theorem graftwoodref17_Apply.bits14 : waitsOk graftwoodref17_Apply.T14.2 graftwoodref17_Apply.B14 = true := by kernel_rfl
theorem graftwoodref17_Apply.calls (k : Nat) (A0 : Option Addr) (c0 : Nat) (l0 : List (S55)) (A1 : Option Addr) (c1 : Nat) (l1 : List (S75)) (r1 : List (S55)) (r2 : Bool) (w : World) (hr0 : Kd.C k55 w A0 l0.length l0) (hc0 : l0.length ≤ c0) (hr1 : Kd.C k75 w A1 l1.length l1) (hc1 : l1.length ≤ c1) (h : graftwoodref17_Apply.f k l0 l1 = some (r1, r2)) :
  Calls Tryz.prog 26 #[.slice A0 l0.length c0, .slice A1 l1.length c1] w fun e w' => ∃ v0_ : Value, e = .returned (.tuple #[v0_, .bool r2]) ∧ Kd.R k55 55 w' w.heap.size (fun _ => True) v0_ r1 ∧ Below w.heap.size w w' := by
 have hu55 := Tryz.underlying55
 have HR0 := Aside0.mk hr0
 have HC0 := Aside0.mk hc0
 clear hr0 hc0
 have HR1 := Aside0.mk hr1
 have HC1 := Aside0.mk hc1
 clear hr1 hc1
 have HB := am (Below.refl w.heap.size w)
 unfold graftwoodref17_Apply.f at h; have H := h; clear h
 have H' := Aside0.mk H
 clear H
 go_enter Tryz.func26, Tryz.ntmps26
 go_wp2
 go_loopg [6, 7] k (fun kq v6 v7 w' => ∃ (a7 : List (S55)) (av : Int), v7 = .int .i64 av ∧ Aside0 (graftwoodref17_Apply.l0 kq l0 l1 a7 av = some (r1, r2)) ∧ Aside0 (kq ≤ k) ∧ Aside0 (Kd.R k55 55 w' w.heap.size (fun _ => True) v6 a7) ∧ Aside0 (Below w.heap.size w w'))
 case atStart => exact ⟨(([] : List (S55))), (0), rfG, H', ⟨Nat.le_refl _⟩, ⟨rfM⟩, ⟨eTx HB.out⟩⟩
 case round =>
  clear H'
  obtain ⟨a7, av, rfl, HA, HK1, ah, HB⟩ := hrel
  cases gk with
  | zero => exact absurd HA.out (by simp [graftwoodref17_Apply.l0])
  | succ k1 =>
   have H := HA.out
   clear HA
   simp only [graftwoodref17_Apply.l0] at H
   replace H := ifP H; rcases H with ⟨c3, H⟩ | ⟨c3, H⟩
   ·have a9 := decide_eq_true c3
    clear c3
    replace H := ifN H; obtain ⟨c4, H⟩ := H
    have bx := decide_eq_true c4
    clear c4
    replace H := ifN H; obtain ⟨c5, H⟩ := H
    have LMc5 := Aside0.mk c5
    clear c5
    obtain ⟨a_, a4⟩ : ∃ y_ : List (S55), y_ = (a7 ++ [(⟨(rd_T55 l0 av).f0, (rd_T55 l0 av).f1⟩ : S55)]) := ⟨_, rfl⟩
    replace H : (graftwoodref17_Apply.l0 k1 l0 l1 a_ (wrap64 (av + 1))) = some (r1, r2) := by first | (rw [a4]; with_reducible exact H) | (have H2_ := (Option.bind_some _ _).symm.trans H; rw [a4]; with_reducible exact H2_) | (have H2_ := (Option.bind_some _ _).symm.trans H; with_reducible exact H2_) | with_reducible exact H | (rw [a4]; exact H) | exact H
    have Ny452 := Aside0.mk a4
    clear a4
    have H' := Aside0.mk H
    clear H
    have p451 : 0 ≤ (av : Int) := of_decide_eq_true rfA
    have q451 : av < (l0.length : Int) := of_decide_eq_true rfA
    obtain ⟨ad451, e451, aZ, a2⟩ := at_T55 HR0.out av p451 q451
    cases e451
    replace aZ := (HB.out.cell (World.block_lt_of_cell? w _ aZ)).trans aZ
    replace a2 := (HB.out.cell (World.block_lt_of_cell? w _ a2)).trans a2
    replace p451 := eq_true p451
    replace q451 := eq_true q451
    go_wp2_with (first | ((with_reducible refine gate_builtin (b := .append) (xs := #[.tmp 15, .tmp 20]) rfl ?_); at_builtin; refine Kd.R_append k55 (w0 := w) w.heap.size rfl (.tmp 15) (.tmp 20) 22 55 (.agg #[(.string ⟨#[]⟩), (.string ⟨#[]⟩)]) 32 rfl Tryz.underlying22 info55 rfl (by decide) (by omega) u6 a7 (⟨(rd_T55 l0 av).f0, (rd_T55 l0 av).f1⟩ : S55) [.string ((rd_T55 l0 av).f0), .string ((rd_T55 l0 av).f1)] (fun _ => True) (fun _ => False) rfl rfl ?aP (fun _ hk => hk.elim) ?aF ?aO ?aB ?aS ?aL ?_; (case aP => exact k55_mkM _ _ _ (⟨(rd_T55 l0 av).f0, (rd_T55 l0 av).f1⟩ : S55)); (case aB => exact (eTx HB.out)); (case aF => exact (fun _ _ => trivial)); (case aO => exact (rT ah.out)); (case aS => exact (below_size (eTx HB.out))); (case aL => have := LMc5.out; omega); intro bQ w6 ho hb hg hat; rw [← Ny452.out] at ho; replace HB := am (hb); have bb := am (ho); clear ah ho hb hg hat))
    go_roundg k1
    case measure => have := HK1.out; omega
    case rel => exact ⟨(a_), (wrap64 (av + 1)), rfG, H', ⟨by have := HK1.out; omega⟩, ⟨rT bb.out⟩, ⟨eTx HB.out⟩⟩
   ·have a9 := decide_eq_false c3
    clear c3
    have H' := Aside0.mk H
    clear H
    go_wp2
    go_loopg [6, 8] k1 (fun kq v6 v8 w' => ∃ (aD : List (S55)) (aa : Int), v8 = .int .i64 aa ∧ Aside0 (graftwoodref17_Apply.l1 kq l0 l1 aD aa = some (r1, r2)) ∧ Aside0 (kq ≤ k1) ∧ Aside0 (Kd.R k55 55 w' w.heap.size (fun _ => True) v6 aD) ∧ Aside0 (Below w.heap.size w w'))
    case atStart => exact ⟨(a7), (0), rfG, H', ⟨Nat.le_refl _⟩, ⟨rT ah.out⟩, ⟨eTx HB.out⟩⟩
    case round =>
     clear H'
     obtain ⟨aD, aa, rfl, HA, HK2, ah, HB⟩ := hrel
     cases gk with
     | zero => exact absurd HA.out (by simp [graftwoodref17_Apply.l1])
     | succ k2 =>
      have H := HA.out
      clear HA
      simp only [graftwoodref17_Apply.l1] at H
      replace H := ifP H; rcases H with ⟨c7, H⟩ | ⟨c7, H⟩
      ·have bz := decide_eq_true c7
       clear c7
       replace H := ifN H; obtain ⟨c8, H⟩ := H
       have bR := decide_eq_true c8
       clear c8
       replace H := bnd H; obtain ⟨aY, A9, H⟩ := H
       replace H := ifP H; rcases H with ⟨c10, H⟩ | ⟨c10, H⟩
       ·have bc := beq_iff_eq.mpr c10
        have be := bne_eq_false_iff_eq.mpr c10
        clear c10
        replace H := ifP H; rcases H with ⟨c11, H⟩ | ⟨c11, H⟩
        ·have bf := beq_iff_eq.mpr c11
         have bg := bne_eq_false_iff_eq.mpr c11
         clear c11
         replace H := ifP H; rcases H with ⟨c12, H⟩ | ⟨c12, H⟩
         ·have bh := beq_iff_eq.mpr c12
          have bi := bne_eq_false_iff_eq.mpr c12
          clear c12
          have H' := Aside0.mk H
          clear H
          try go_wp2
          replace ah := am (Kd.R_drew ah.out)
          replace HB := am (below_drew1 HB.out)
          have p455 : 0 ≤ (aa : Int) := of_decide_eq_true rfA
          have q455 : aa < (l1.length : Int) := of_decide_eq_true rfA
          obtain ⟨ad455, e455, ab, ac, ad⟩ := at_T75 HR1.out aa p455 q455
          have hw455_2 := ad
          have hw455_1 := ac
          have hw455_0 := ab
          cases e455
          replace ab := (HB.out.cell (World.block_lt_of_cell? w _ ab)).trans ab
          replace ac := (HB.out.cell (World.block_lt_of_cell? w _ ac)).trans ac
          replace ad := (HB.out.cell (World.block_lt_of_cell? w _ ad)).trans ad
          replace p455 := eq_true p455
          replace q455 := eq_true q455
          have p457 : 0 ≤ (aa : Int) := of_decide_eq_true rfA
          have q457 : aa < (l1.length : Int) := of_decide_eq_true rfA
          obtain ⟨ad457, e457, ae, af, ag⟩ := at_T75 HR1.out aa p457 q457
          have hw457_2 := ag
          have hw457_1 := af
          have hw457_0 := ae
          obtain rfl : ad455 = ad457 := (by injection e457)
          replace ae := (HB.out.cell (World.block_lt_of_cell? w _ ae)).trans ae
          replace af := (HB.out.cell (World.block_lt_of_cell? w _ af)).trans af
          replace ag := (HB.out.cell (World.block_lt_of_cell? w _ ag)).trans ag
          replace p457 := eq_true p457
          replace q457 := eq_true q457
          refine start_ (n := 13) (S := fun w' => w'.cell? (ad455.add ((aa).toNat * 3)) = some (.string ((rd_T75 l1 aa).f0)) ∧ w'.cell? ⟨(ad455.add ((aa).toNat * 3)).block, (ad455.add ((aa).toNat * 3)).off + 1, none⟩ = some (.string ((rd_T75 l1 aa).f1)) ∧ w'.cell? ⟨(ad455.add ((aa).toNat * 3)).block, (ad455.add ((aa).toNat * 3)).off + 2, none⟩ = some (.string ((rd_T75 l1 aa).f2)) ∧ w'.cell? (ad455.add ((aa).toNat * 3)) = some (.string ((rd_T75 l1 aa).f0)) ∧ w'.cell? ⟨(ad455.add ((aa).toNat * 3)).block, (ad455.add ((aa).toNat * 3)).off + 1, none⟩ = some (.string ((rd_T75 l1 aa).f1)) ∧ w'.cell? ⟨(ad455.add ((aa).toNat * 3)).block, (ad455.add ((aa).toNat * 3)).off + 2, none⟩ = some (.string ((rd_T75 l1 aa).f2))) (ds := []) (bA 13 0) rfK rfl rfK ⟨((HB.out.cell (World.block_lt_of_cell? w _ hw455_0)).trans hw455_0), ((HB.out.cell (World.block_lt_of_cell? w _ hw455_1)).trans hw455_1), ((HB.out.cell (World.block_lt_of_cell? w _ hw455_2)).trans hw455_2), ((HB.out.cell (World.block_lt_of_cell? w _ hw457_0)).trans hw457_0), ((HB.out.cell (World.block_lt_of_cell? w _ hw457_1)).trans hw457_1), ((HB.out.cell (World.block_lt_of_cell? w _ hw457_2)).trans hw457_2)⟩ (fun hHeld => ?_); refine with_tabW graftwoodref17_Apply.tab9 graftwoodref17_Apply.bits9 (fun HT_ HW_ => ?_)
          generalize wr.drew = w13 at ah HB ab ac ad ae af ag hHeld ⊢
          refine pT 0 28 (bA 13 1) HT_.out ?_
          refine pT 1 29 (bA 13 3) HT_.out ?_
          refine pT 2 30 (bA 13 7) HT_.out ?_
          refine pT 3 31 (bA 13 15) HT_.out ?_
          refine pT 4 32 (bA 13 31) HT_.out ?_
          refine pT 7 35 (bA 13 159) HT_.out ?_
          refine pT 8 36 (bA 13 415) HT_.out ?_
          refine pT 9 37 (bA 13 927) HT_.out ?_
          refine pT 10 38 (bA 13 1951) HT_.out ?_
          refine tT 5 33 (bA 13 1983) HT_.out HW_.out hHeld ?_ (hy := by rintro w' ⟨s0, s1, s2, s3, s4, s5⟩; go_simp; with_reducible rfl)
          refine tT 11 39 (bA 13 4031) HT_.out HW_.out hHeld ?_ (hy := by rintro w' ⟨s0, s1, s2, s3, s4, s5⟩; go_simp; with_reducible rfl)
          refine oT 6 (bA 13 4095) HT_.out fun K hK => ?_
          refine gS Tryz.func19 #[.slice A0 l0.length c0, .string ((rd_T75 l1 aa).f0)] ?_
          with_reducible refine (graftwoodref17_Pick.calls k2 _ _ l0 ((rd_T75 l1 aa).f0) aY _ (cW (Kd.C_below HR0.out HB.out)) HC0.out A9.out).mono ?_
          rintro e w' ⟨rfl, ⟨nd, rfl⟩⟩
          refine ⟨_, rfl, ?_⟩
          refine hK.out _ _ ⟨((HB.out.cell (World.block_lt_of_cell? w _ hw455_0)).trans hw455_0), ((HB.out.cell (World.block_lt_of_cell? w _ hw455_1)).trans hw455_1), ((HB.out.cell (World.block_lt_of_cell? w _ hw455_2)).trans hw455_2), ((HB.out.cell (World.block_lt_of_cell? w _ hw457_0)).trans hw457_0), ((HB.out.cell (World.block_lt_of_cell? w _ hw457_1)).trans hw457_1), ((HB.out.cell (World.block_lt_of_cell? w _ hw457_2)).trans hw457_2)⟩ (fun hHeld => ?_)
          clear hK K
          refine mN 34 ?_
          refine pT 12 40 (bA 13 8191) HT_.out ?_
          refine done_ (done_of HT_.out rfK) ?_
          have p458 : 0 ≤ (aa : Int) := of_decide_eq_true rfA
          have q458 : aa < (l1.length : Int) := of_decide_eq_true rfA
          obtain ⟨ad458, e458, ai, aj, ak⟩ := at_T75 HR1.out aa p458 q458
          obtain rfl : ad455 = ad458 := (by injection e458)
          replace ai := (HB.out.cell (World.block_lt_of_cell? w _ ai)).trans ai
          replace aj := (HB.out.cell (World.block_lt_of_cell? w _ aj)).trans aj
          replace ak := (HB.out.cell (World.block_lt_of_cell? w _ ak)).trans ak
          replace p458 := eq_true p458
          replace q458 := eq_true q458
          have p459 : 0 ≤ (aa : Int) := of_decide_eq_true rfA
          have q459 : aa < (l1.length : Int) := of_decide_eq_true rfA
          obtain ⟨ad459, e459, aw, ax, ay⟩ := at_T75 HR1.out aa p459 q459
          obtain rfl : ad455 = ad459 := (by injection e459)
          replace aw := (HB.out.cell (World.block_lt_of_cell? w _ aw)).trans aw
          replace ax := (HB.out.cell (World.block_lt_of_cell? w _ ax)).trans ax
          replace ay := (HB.out.cell (World.block_lt_of_cell? w _ ay)).trans ay
          replace p459 := eq_true p459
          replace q459 := eq_true q459
          try go_wp2
          go_roundg k2
          case measure => have := HK1.out; have := HK2.out; omega
          case rel => exact ⟨(aD), (wrap64 (aa + 1)), rfG, H', ⟨by have := HK1.out; have := HK2.out; omega⟩, ⟨rT ah.out⟩, ⟨eTx HB.out⟩⟩
         ·have bh := beq_eq_false_iff_ne.mpr c12
          have bi := bne_iff_ne.mpr c12
          replace H := bnd H; obtain ⟨a6, A14, H⟩ := H
          have H' := Aside0.mk H
          clear H
          try go_wp2
          replace ah := am (Kd.R_drew ah.out)
          replace HB := am (below_drew1 HB.out)
          have p455 : 0 ≤ (aa : Int) := of_decide_eq_true rfA
          have q455 : aa < (l1.length : Int) := of_decide_eq_true rfA
          obtain ⟨ad455, e455, ab, ac, ad⟩ := at_T75 HR1.out aa p455 q455
          have hw455_2 := ad
          have hw455_1 := ac
          have hw455_0 := ab
          cases e455
          replace ab := (HB.out.cell (World.block_lt_of_cell? w _ ab)).trans ab
          replace ac := (HB.out.cell (World.block_lt_of_cell? w _ ac)).trans ac
          replace ad := (HB.out.cell (World.block_lt_of_cell? w _ ad)).trans ad
          replace p455 := eq_true p455
          replace q455 := eq_true q455
          have p457 : 0 ≤ (aa : Int) := of_decide_eq_true rfA
          have q457 : aa < (l1.length : Int) := of_decide_eq_true rfA
          obtain ⟨ad457, e457, ae, af, ag⟩ := at_T75 HR1.out aa p457 q457
          have hw457_2 := ag
          have hw457_1 := af
          have hw457_0 := ae
          obtain rfl : ad455 = ad457 := (by injection e457)
          replace ae := (HB.out.cell (World.block_lt_of_cell? w _ ae)).trans ae
          replace af := (HB.out.cell (World.block_lt_of_cell? w _ af)).trans af
          replace ag := (HB.out.cell (World.block_lt_of_cell? w _ ag)).trans ag
          replace p457 := eq_true p457
          replace q457 := eq_true q457
          refine start_ (n := 13) (S := fun w' => w'.cell? (ad455.add ((aa).toNat * 3)) = some (.string ((rd_T75 l1 aa).f0)) ∧ w'.cell? ⟨(ad455.add ((aa).toNat * 3)).block, (ad455.add ((aa).toNat * 3)).off + 1, none⟩ = some (.string ((rd_T75 l1 aa).f1)) ∧ w'.cell? ⟨(ad455.add ((aa).toNat * 3)).block, (ad455.add ((aa).toNat * 3)).off + 2, none⟩ = some (.string ((rd_T75 l1 aa).f2)) ∧ w'.cell? (ad455.add ((aa).toNat * 3)) = some (.string ((rd_T75 l1 aa).f0)) ∧ w'.cell? ⟨(ad455.add ((aa).toNat * 3)).block, (ad455.add ((aa).toNat * 3)).off + 1, none⟩ = some (.string ((rd_T75 l1 aa).f1)) ∧ w'.cell? ⟨(ad455.add ((aa).toNat * 3)).block, (ad455.add ((aa).toNat * 3)).off + 2, none⟩ = some (.string ((rd_T75 l1 aa).f2))) (ds := []) (bA 13 0) rfK rfl rfK ⟨((HB.out.cell (World.block_lt_of_cell? w _ hw455_0)).trans hw455_0), ((HB.out.cell (World.block_lt_of_cell? w _ hw455_1)).trans hw455_1), ((HB.out.cell (World.block_lt_of_cell? w _ hw455_2)).trans hw455_2), ((HB.out.cell (World.block_lt_of_cell? w _ hw457_0)).trans hw457_0), ((HB.out.cell (World.block_lt_of_cell? w _ hw457_1)).trans hw457_1), ((HB.out.cell (World.block_lt_of_cell? w _ hw457_2)).trans hw457_2)⟩ (fun hHeld => ?_); refine with_tabW graftwoodref17_Apply.tab9 graftwoodref17_Apply.bits9 (fun HT_ HW_ => ?_)
          generalize wr.drew = w15 at ah HB ab ac ad ae af ag hHeld ⊢
          refine pT 0 28 (bA 13 1) HT_.out ?_
          refine pT 1 29 (bA 13 3) HT_.out ?_
          refine pT 2 30 (bA 13 7) HT_.out ?_
          refine pT 3 31 (bA 13 15) HT_.out ?_
          refine pT 4 32 (bA 13 31) HT_.out ?_
          refine pT 7 35 (bA 13 159) HT_.out ?_
          refine pT 8 36 (bA 13 415) HT_.out ?_
          refine pT 9 37 (bA 13 927) HT_.out ?_
          refine pT 10 38 (bA 13 1951) HT_.out ?_
          refine tT 5 33 (bA 13 1983) HT_.out HW_.out hHeld ?_ (hy := by rintro w' ⟨s0, s1, s2, s3, s4, s5⟩; go_simp; with_reducible rfl)
          refine tT 11 39 (bA 13 4031) HT_.out HW_.out hHeld ?_ (hy := by rintro w' ⟨s0, s1, s2, s3, s4, s5⟩; go_simp; with_reducible rfl)
          refine oT 6 (bA 13 4095) HT_.out fun K hK => ?_
          refine gS Tryz.func19 #[.slice A0 l0.length c0, .string ((rd_T75 l1 aa).f0)] ?_
          with_reducible refine (graftwoodref17_Pick.calls k2 _ _ l0 ((rd_T75 l1 aa).f0) aY _ (cW (Kd.C_below HR0.out HB.out)) HC0.out A9.out).mono ?_
          rintro e w' ⟨rfl, ⟨nd, rfl⟩⟩
          refine ⟨_, rfl, ?_⟩
          refine hK.out _ _ ⟨((HB.out.cell (World.block_lt_of_cell? w _ hw455_0)).trans hw455_0), ((HB.out.cell (World.block_lt_of_cell? w _ hw455_1)).trans hw455_1), ((HB.out.cell (World.block_lt_of_cell? w _ hw455_2)).trans hw455_2), ((HB.out.cell (World.block_lt_of_cell? w _ hw457_0)).trans hw457_0), ((HB.out.cell (World.block_lt_of_cell? w _ hw457_1)).trans hw457_1), ((HB.out.cell (World.block_lt_of_cell? w _ hw457_2)).trans hw457_2)⟩ (fun hHeld => ?_)
          clear hK K
          refine mN 34 ?_
          refine pT 12 40 (bA 13 8191) HT_.out ?_
          refine done_ (done_of HT_.out rfK) ?_
          have p458 : 0 ≤ (aa : Int) := of_decide_eq_true rfA
          have q458 : aa < (l1.length : Int) := of_decide_eq_true rfA
          obtain ⟨ad458, e458, ai, aj, ak⟩ := at_T75 HR1.out aa p458 q458
          obtain rfl : ad455 = ad458 := (by injection e458)
          replace ai := (HB.out.cell (World.block_lt_of_cell? w _ ai)).trans ai
          replace aj := (HB.out.cell (World.block_lt_of_cell? w _ aj)).trans aj
          replace ak := (HB.out.cell (World.block_lt_of_cell? w _ ak)).trans ak
          replace p458 := eq_true p458
          replace q458 := eq_true q458
          have p459 : 0 ≤ (aa : Int) := of_decide_eq_true rfA
          have q459 : aa < (l1.length : Int) := of_decide_eq_true rfA
          obtain ⟨ad459, e459, aw, ax, ay⟩ := at_T75 HR1.out aa p459 q459
          obtain rfl : ad455 = ad459 := (by injection e459)
          replace aw := (HB.out.cell (World.block_lt_of_cell? w _ aw)).trans aw
          replace ax := (HB.out.cell (World.block_lt_of_cell? w _ ax)).trans ax
          replace ay := (HB.out.cell (World.block_lt_of_cell? w _ ay)).trans ay
          replace p459 := eq_true p459
          replace q459 := eq_true q459
          try go_wp2
          (try (rw [drewN_self w15]; generalize hq_ : World.drewN w15 _ = w15; have n0_ : Aside0 (Kd.R k55 55 w15 w.heap.size (fun _ => True) u6 aD) := ⟨by rw [← hq_]; exact (rT ah.out)⟩; have n1_ : Aside0 (Below w.heap.size w w15) := ⟨by rw [← hq_]; exact (eTx HB.out)⟩; clear ah HB hq_; have ah := n0_; have HB := n1_; clear n0_ n1_))
          replace ah := am (Kd.R_drew ah.out)
          replace HB := am (below_drew1 HB.out)
          have p460 : 0 ≤ (aa : Int) := of_decide_eq_true rfA
          have q460 : aa < (l1.length : Int) := of_decide_eq_true rfA
          obtain ⟨ad460, e460, aH, aI, aJ⟩ := at_T75 HR1.out aa p460 q460
          have hw460_2 := aJ
          have hw460_1 := aI
          have hw460_0 := aH
          obtain rfl : ad455 = ad460 := (by injection e460)
          replace aH := (HB.out.cell (World.block_lt_of_cell? w _ aH)).trans aH
          replace aI := (HB.out.cell (World.block_lt_of_cell? w _ aI)).trans aI
          replace aJ := (HB.out.cell (World.block_lt_of_cell? w _ aJ)).trans aJ
          replace p460 := eq_true p460
          replace q460 := eq_true q460
          have p461 : 0 ≤ (aa : Int) := of_decide_eq_true rfA
          have q461 : aa < (l1.length : Int) := of_decide_eq_true rfA
          obtain ⟨ad461, e461, aK, aM, aN⟩ := at_T75 HR1.out aa p461 q461
          have hw461_2 := aN
          have hw461_1 := aM
          have hw461_0 := aK
          obtain rfl : ad455 = ad461 := (by injection e461)
          replace aK := (HB.out.cell (World.block_lt_of_cell? w _ aK)).trans aK
          replace aM := (HB.out.cell (World.block_lt_of_cell? w _ aM)).trans aM
          replace aN := (HB.out.cell (World.block_lt_of_cell? w _ aN)).trans aN
          replace p461 := eq_true p461
          replace q461 := eq_true q461
          obtain ⟨bC, bD, bk⟩ := Kd.R_slice ah.out
          (first | subst bk | (injection bk with f1_ f2_ f3_; have f4_ := f1_.symm; have f5_ := f3_.symm; clear f1_ f2_ f3_; subst f4_; subst f5_))
          refine start_ (n := 14) (S := fun w' => w'.cell? (ad455.add ((aa).toNat * 3)) = some (.string ((rd_T75 l1 aa).f0)) ∧ w'.cell? ⟨(ad455.add ((aa).toNat * 3)).block, (ad455.add ((aa).toNat * 3)).off + 1, none⟩ = some (.string ((rd_T75 l1 aa).f1)) ∧ w'.cell? ⟨(ad455.add ((aa).toNat * 3)).block, (ad455.add ((aa).toNat * 3)).off + 2, none⟩ = some (.string ((rd_T75 l1 aa).f2)) ∧ w'.cell? (ad455.add ((aa).toNat * 3)) = some (.string ((rd_T75 l1 aa).f0)) ∧ w'.cell? ⟨(ad455.add ((aa).toNat * 3)).block, (ad455.add ((aa).toNat * 3)).off + 1, none⟩ = some (.string ((rd_T75 l1 aa).f1)) ∧ w'.cell? ⟨(ad455.add ((aa).toNat * 3)).block, (ad455.add ((aa).toNat * 3)).off + 2, none⟩ = some (.string ((rd_T75 l1 aa).f2))) (ds := []) (bA 14 0) rfK rfl rfK ⟨((HB.out.cell (World.block_lt_of_cell? w _ hw460_0)).trans hw460_0), ((HB.out.cell (World.block_lt_of_cell? w _ hw460_1)).trans hw460_1), ((HB.out.cell (World.block_lt_of_cell? w _ hw460_2)).trans hw460_2), ((HB.out.cell (World.block_lt_of_cell? w _ hw461_0)).trans hw461_0), ((HB.out.cell (World.block_lt_of_cell? w _ hw461_1)).trans hw461_1), ((HB.out.cell (World.block_lt_of_cell? w _ hw461_2)).trans hw461_2)⟩ (fun hHeld => ?_); refine with_tabW graftwoodref17_Apply.tab14 graftwoodref17_Apply.bits14 (fun HT_ HW_ => ?_)
          generalize w15.drew = w16 at ah HB aH aI aJ aK aM aN hHeld ⊢
          iterate 5 refine zT HT_ ?_
          refine zL HT_ HW_ hHeld ?_ (hy := by rintro w' ⟨s0, s1, s2, s3, s4, s5⟩; go_simp; with_reducible rfl)
          iterate 4 refine zT HT_ ?_
          refine zL HT_ HW_ hHeld ?_ (hy := by rintro w' ⟨s0, s1, s2, s3, s4, s5⟩; go_simp; with_reducible rfl)
          refine zT HT_ ?_
          refine zO HT_ fun K hK => ?_
          refine gS Tryz.func49 #[.slice bC aD.length bD, .agg #[.string ((rd_T75 l1 aa).f0), .string ((rd_T75 l1 aa).f2)]] ?_
          with_reducible refine (graftwoodref05_With.calls k2 _ _ aD ((rd_T75 l1 aa).f0) ((rd_T75 l1 aa).f2) a6 _ (cW (Kd.R_reads' ah.out).2.2) ((Kd.R_reads' ah.out).2.1) A14.out).mono ?_
          rintro e w18 ⟨bS, rfl, ho0, hb⟩
          refine ⟨_, rfl, ?_⟩
          have bl := am (Kd.R_lower (Kd.R_new' ho0 (Kd.R_lt (rT ah.out))) (below_size (eTx HB.out)))
          replace ah := am (Kd.R_elder' (rT ah.out) (Kd.R_base ho0) hb)
          replace HB := am (sTx HB.out hb)
          refine hK.out _ _ ⟨((HB.out.cell (World.block_lt_of_cell? w _ hw460_0)).trans hw460_0), ((HB.out.cell (World.block_lt_of_cell? w _ hw460_1)).trans hw460_1), ((HB.out.cell (World.block_lt_of_cell? w _ hw460_2)).trans hw460_2), ((HB.out.cell (World.block_lt_of_cell? w _ hw461_0)).trans hw461_0), ((HB.out.cell (World.block_lt_of_cell? w _ hw461_1)).trans hw461_1), ((HB.out.cell (World.block_lt_of_cell? w _ hw461_2)).trans hw461_2)⟩ (fun hHeld => ?_)
          clear hK K
          refine mN _ ?_
          refine zT HT_ ?_
          refine done_ (done_of HT_.out rfK) ?_
          try go_wp2
          go_roundg k2
          case measure => have := HK1.out; have := HK2.out; omega
          case rel => exact ⟨(a6), (wrap64 (aa + 1)), rfG, H', ⟨by have := HK1.out; have := HK2.out; omega⟩, ⟨by (with_reducible repeat (first | apply Kd.R_alloc | apply Kd.R_drewN | apply Kd.R_drew)); exact Kd.R_mono bl.out (fun _ hk => trivial)⟩, ⟨eTx HB.out⟩⟩
        ·have bf := beq_eq_false_iff_ne.mpr c11
         have bg := bne_iff_ne.mpr c11
         obtain ⟨a8, a5⟩ : ∃ y_ : List (S55), y_ = (([(⟨(rd_T75 l1 aa).f0, (rd_T75 l1 aa).f1⟩ : S55)] : List (S55))) := ⟨_, rfl⟩
         replace H : ((graftwoodref05_Minus.f k2 aD a8).bind fun aG => (if ((rd_T75 l1 aa).f2).toList = ([] : List UInt8) then (graftwoodref17_Apply.l1 k2 l0 l1 aG (wrap64 (aa + 1))) else ((graftwoodref05_With.f k2 aG ((rd_T75 l1 aa).f0) ((rd_T75 l1 aa).f2)).bind fun a3 => (graftwoodref17_Apply.l1 k2 l0 l1 a3 (wrap64 (aa + 1)))))) = some (r1, r2) := by first | (rw [a5]; with_reducible exact H) | (have H2_ := (Option.bind_some _ _).symm.trans H; rw [a5]; with_reducible exact H2_) | (have H2_ := (Option.bind_some _ _).symm.trans H; with_reducible exact H2_) | with_reducible exact H | (rw [a5]; exact H) | exact H
         have Ny467 := Aside0.mk a5
         clear a5
         replace H := bnd H; obtain ⟨aG, A19, H⟩ := H
         replace H := ifP H; rcases H with ⟨c20, H⟩ | ⟨c20, H⟩
         ·have bo := beq_iff_eq.mpr c20
          have bp := bne_eq_false_iff_eq.mpr c20
          clear c20
          have H' := Aside0.mk H
          clear H
          try go_wp2
          replace ah := am (Kd.R_drew ah.out)
          replace HB := am (below_drew1 HB.out)
          have p455 : 0 ≤ (aa : Int) := of_decide_eq_true rfA
          have q455 : aa < (l1.length : Int) := of_decide_eq_true rfA
          obtain ⟨ad455, e455, ab, ac, ad⟩ := at_T75 HR1.out aa p455 q455
          have hw455_2 := ad
          have hw455_1 := ac
          have hw455_0 := ab
          cases e455
          replace ab := (HB.out.cell (World.block_lt_of_cell? w _ ab)).trans ab
          replace ac := (HB.out.cell (World.block_lt_of_cell? w _ ac)).trans ac
          replace ad := (HB.out.cell (World.block_lt_of_cell? w _ ad)).trans ad
          replace p455 := eq_true p455
          replace q455 := eq_true q455
          have p457 : 0 ≤ (aa : Int) := of_decide_eq_true rfA
          have q457 : aa < (l1.length : Int) := of_decide_eq_true rfA
          obtain ⟨ad457, e457, ae, af, ag⟩ := at_T75 HR1.out aa p457 q457
          have hw457_2 := ag
          have hw457_1 := af
          have hw457_0 := ae
          obtain rfl : ad455 = ad457 := (by injection e457)
          replace ae := (HB.out.cell (World.block_lt_of_cell? w _ ae)).trans ae
          replace af := (HB.out.cell (World.block_lt_of_cell? w _ af)).trans af
          replace ag := (HB.out.cell (World.block_lt_of_cell? w _ ag)).trans ag
          replace p457 := eq_true p457
          replace q457 := eq_true q457
          refine start_ (n := 13) (S := fun w' => w'.cell? (ad455.add ((aa).toNat * 3)) = some (.string ((rd_T75 l1 aa).f0)) ∧ w'.cell? ⟨(ad455.add ((aa).toNat * 3)).block, (ad455.add ((aa).toNat * 3)).off + 1, none⟩ = some (.string ((rd_T75 l1 aa).f1)) ∧ w'.cell? ⟨(ad455.add ((aa).toNat * 3)).block, (ad455.add ((aa).toNat * 3)).off + 2, none⟩ = some (.string ((rd_T75 l1 aa).f2)) ∧ w'.cell? (ad455.add ((aa).toNat * 3)) = some (.string ((rd_T75 l1 aa).f0)) ∧ w'.cell? ⟨(ad455.add ((aa).toNat * 3)).block, (ad455.add ((aa).toNat * 3)).off + 1, none⟩ = some (.string ((rd_T75 l1 aa).f1)) ∧ w'.cell? ⟨(ad455.add ((aa).toNat * 3)).block, (ad455.add ((aa).toNat * 3)).off + 2, none⟩ = some (.string ((rd_T75 l1 aa).f2))) (ds := []) (bA 13 0) rfK rfl rfK ⟨((HB.out.cell (World.block_lt_of_cell? w _ hw455_0)).trans hw455_0), ((HB.out.cell (World.block_lt_of_cell? w _ hw455_1)).trans hw455_1), ((HB.out.cell (World.block_lt_of_cell? w _ hw455_2)).trans hw455_2), ((HB.out.cell (World.block_lt_of_cell? w _ hw457_0)).trans hw457_0), ((HB.out.cell (World.block_lt_of_cell? w _ hw457_1)).trans hw457_1), ((HB.out.cell (World.block_lt_of_cell? w _ hw457_2)).trans hw457_2)⟩ (fun hHeld => ?_); refine with_tabW graftwoodref17_Apply.tab9 graftwoodref17_Apply.bits9 (fun HT_ HW_ => ?_)
          generalize wr.drew = w21 at ah HB ab ac ad ae af ag hHeld ⊢
          refine pT 0 28 (bA 13 1) HT_.out ?_
          refine pT 1 29 (bA 13 3) HT_.out ?_
          refine pT 2 30 (bA 13 7) HT_.out ?_
          refine pT 3 31 (bA 13 15) HT_.out ?_
          refine pT 4 32 (bA 13 31) HT_.out ?_
          refine pT 7 35 (bA 13 159) HT_.out ?_
          refine pT 8 36 (bA 13 415) HT_.out ?_
          refine pT 9 37 (bA 13 927) HT_.out ?_
          refine pT 10 38 (bA 13 1951) HT_.out ?_
          refine tT 5 33 (bA 13 1983) HT_.out HW_.out hHeld ?_ (hy := by rintro w' ⟨s0, s1, s2, s3, s4, s5⟩; go_simp; with_reducible rfl)
          refine tT 11 39 (bA 13 4031) HT_.out HW_.out hHeld ?_ (hy := by rintro w' ⟨s0, s1, s2, s3, s4, s5⟩; go_simp; with_reducible rfl)
          refine oT 6 (bA 13 4095) HT_.out fun K hK => ?_
          refine gS Tryz.func19 #[.slice A0 l0.length c0, .string ((rd_T75 l1 aa).f0)] ?_
          with_reducible refine (graftwoodref17_Pick.calls k2 _ _ l0 ((rd_T75 l1 aa).f0) aY _ (cW (Kd.C_below HR0.out HB.out)) HC0.out A9.out).mono ?_
          rintro e w' ⟨rfl, ⟨nd, rfl⟩⟩
          refine ⟨_, rfl, ?_⟩
          refine hK.out _ _ ⟨((HB.out.cell (World.block_lt_of_cell? w _ hw455_0)).trans hw455_0), ((HB.out.cell (World.block_lt_of_cell? w _ hw455_1)).trans hw455_1), ((HB.out.cell (World.block_lt_of_cell? w _ hw455_2)).trans hw455_2), ((HB.out.cell (World.block_lt_of_cell? w _ hw457_0)).trans hw457_0), ((HB.out.cell (World.block_lt_of_cell? w _ hw457_1)).trans hw457_1), ((HB.out.cell (World.block_lt_of_cell? w _ hw457_2)).trans hw457_2)⟩ (fun hHeld => ?_)
          clear hK K
          refine mN 34 ?_
          refine pT 12 40 (bA 13 8191) HT_.out ?_
          refine done_ (done_of HT_.out rfK) ?_
          have p458 : 0 ≤ (aa : Int) := of_decide_eq_true rfA
          have q458 : aa < (l1.length : Int) := of_decide_eq_true rfA
          obtain ⟨ad458, e458, ai, aj, ak⟩ := at_T75 HR1.out aa p458 q458
          obtain rfl : ad455 = ad458 := (by injection e458)
          replace ai := (HB.out.cell (World.block_lt_of_cell? w _ ai)).trans ai
          replace aj := (HB.out.cell (World.block_lt_of_cell? w _ aj)).trans aj
          replace ak := (HB.out.cell (World.block_lt_of_cell? w _ ak)).trans ak
          replace p458 := eq_true p458
          replace q458 := eq_true q458
          try go_wp2
          (try (rw [drewN_self w21]; generalize hq_ : World.drewN w21 _ = w21; have n0_ : Aside0 (Kd.R k55 55 w21 w.heap.size (fun _ => True) u6 aD) := ⟨by rw [← hq_]; exact (rT ah.out)⟩; have n1_ : Aside0 (Below w.heap.size w w21) := ⟨by rw [← hq_]; exact (eTx HB.out)⟩; clear ah HB hq_; have ah := n0_; have HB := n1_; clear n0_ n1_))
          replace ah := am (Kd.R_drew ah.out)
          replace HB := am (below_drew1 HB.out)
          have p465 : 0 ≤ (aa : Int) := of_decide_eq_true rfA
          have q465 : aa < (l1.length : Int) := of_decide_eq_true rfA
          obtain ⟨ad465, e465, al, an, ao⟩ := at_T75 HR1.out aa p465 q465
          have hw465_2 := ao
          have hw465_1 := an
          have hw465_0 := al
          obtain rfl : ad455 = ad465 := (by injection e465)
          replace al := (HB.out.cell (World.block_lt_of_cell? w _ al)).trans al
          replace an := (HB.out.cell (World.block_lt_of_cell? w _ an)).trans an
          replace ao := (HB.out.cell (World.block_lt_of_cell? w _ ao)).trans ao
          replace p465 := eq_true p465
          replace q465 := eq_true q465
          have p466 : 0 ≤ (aa : Int) := of_decide_eq_true rfA
          have q466 : aa < (l1.length : Int) := of_decide_eq_true rfA
          obtain ⟨ad466, e466, ap, aq, ar⟩ := at_T75 HR1.out aa p466 q466
          have hw466_2 := ar
          have hw466_1 := aq
          have hw466_0 := ap
          obtain rfl : ad455 = ad466 := (by injection e466)
          replace ap := (HB.out.cell (World.block_lt_of_cell? w _ ap)).trans ap
          replace aq := (HB.out.cell (World.block_lt_of_cell? w _ aq)).trans aq
          replace ar := (HB.out.cell (World.block_lt_of_cell? w _ ar)).trans ar
          replace p466 := eq_true p466
          replace q466 := eq_true q466
          refine start_ (n := 15) (S := fun w' => w'.cell? (ad455.add ((aa).toNat * 3)) = some (.string ((rd_T75 l1 aa).f0)) ∧ w'.cell? ⟨(ad455.add ((aa).toNat * 3)).block, (ad455.add ((aa).toNat * 3)).off + 1, none⟩ = some (.string ((rd_T75 l1 aa).f1)) ∧ w'.cell? ⟨(ad455.add ((aa).toNat * 3)).block, (ad455.add ((aa).toNat * 3)).off + 2, none⟩ = some (.string ((rd_T75 l1 aa).f2)) ∧ w'.cell? (ad455.add ((aa).toNat * 3)) = some (.string ((rd_T75 l1 aa).f0)) ∧ w'.cell? ⟨(ad455.add ((aa).toNat * 3)).block, (ad455.add ((aa).toNat * 3)).off + 1, none⟩ = some (.string ((rd_T75 l1 aa).f1)) ∧ w'.cell? ⟨(ad455.add ((aa).toNat * 3)).block, (ad455.add ((aa).toNat * 3)).off + 2, none⟩ = some (.string ((rd_T75 l1 aa).f2))) (ds := []) (bA 15 0) rfK rfl rfK ⟨((HB.out.cell (World.block_lt_of_cell? w _ hw465_0)).trans hw465_0), ((HB.out.cell (World.block_lt_of_cell? w _ hw465_1)).trans hw465_1), ((HB.out.cell (World.block_lt_of_cell? w _ hw465_2)).trans hw465_2), ((HB.out.cell (World.block_lt_of_cell? w _ hw466_0)).trans hw466_0), ((HB.out.cell (World.block_lt_of_cell? w _ hw466_1)).trans hw466_1), ((HB.out.cell (World.block_lt_of_cell? w _ hw466_2)).trans hw466_2)⟩ (fun hHeld => ?_); refine with_tabW graftwoodref17_Apply.tab12 graftwoodref17_Apply.bits12 (fun HT_ HW_ => ?_)
          generalize w21.drew = w22 at ah HB al an ao ap aq ar hHeld ⊢
          iterate 5 refine zT HT_ ?_
          refine zL HT_ HW_ hHeld ?_ (hy := by rintro w' ⟨s0, s1, s2, s3, s4, s5⟩; go_simp; with_reducible rfl)
          iterate 4 refine zT HT_ ?_
          refine zL HT_ HW_ hHeld ?_ (hy := by rintro w' ⟨s0, s1, s2, s3, s4, s5⟩; go_simp; with_reducible rfl)
          refine zT HT_ ?_
          refine zO HT_ fun K hK => ?_
          refine Kd.R_lit_step k55 _ 55 ?hg (N := 59) ?hd (xs := ([(⟨(rd_T75 l1 aa).f0, (rd_T75 l1 aa).f1⟩ : S55)] : List (S55))) (inner := [.string ((rd_T75 l1 aa).f0), .string ((rd_T75 l1 aa).f1)]) (ok := fun _ => True) (okp := fun _ => True) ?hr ?hp (fun _ hk => hk) trivial (Below.refl _ _) (Nat.le_refl _) (by simp) ?_; (case hd => rfl); (case hg => rfl); (case hr => first | (go_simp; done) | (go_simp; rfl)); (case hp => exact (Reps.c2 (show Kd.M k55 _ _ _ (⟨(rd_T75 l1 aa).f0, (rd_T75 l1 aa).f1⟩ : S55) [.string ((rd_T75 l1 aa).f0), .string ((rd_T75 l1 aa).f1)] from (k55_mkM _ _ _ (⟨(rd_T75 l1 aa).f0, (rd_T75 l1 aa).f1⟩ : S55) )) (Reps.none _ _)))
          intro bE w23 ho24 hb hg_ hnew_
          clear hg_ hnew_
          (first | rw [← Ny467.out] at ho24 | (simp only [Int.reduceToNat] at ho24; rw [← Ny467.out] at ho24))
          have au := am (Kd.R_lower (Kd.R_new' ho24 (Kd.R_lt (rT ah.out))) (below_size (eTx HB.out)))
          replace ah := am (Kd.R_elder' (rT ah.out) (Kd.R_base ho24) hb)
          replace HB := am (sTx HB.out hb)
          clear hb ho24
          obtain ⟨bF, bG, bq⟩ := Kd.R_slice ah.out
          (first | subst bq | (injection bq with f1_ f2_ f3_; have f4_ := f1_.symm; have f5_ := f3_.symm; clear f1_ f2_ f3_; subst f4_; subst f5_))
          obtain ⟨bH, bI, br⟩ := Kd.R_slice au.out
          (first | subst br | (injection br with f1_ f2_ f3_; have f4_ := f1_.symm; have f5_ := f3_.symm; clear f1_ f2_ f3_; subst f4_; subst f5_))
          refine hK.out _ _ ⟨((HB.out.cell (World.block_lt_of_cell? w _ hw465_0)).trans hw465_0), ((HB.out.cell (World.block_lt_of_cell? w _ hw465_1)).trans hw465_1), ((HB.out.cell (World.block_lt_of_cell? w _ hw465_2)).trans hw465_2), ((HB.out.cell (World.block_lt_of_cell? w _ hw466_0)).trans hw466_0), ((HB.out.cell (World.block_lt_of_cell? w _ hw466_1)).trans hw466_1), ((HB.out.cell (World.block_lt_of_cell? w _ hw466_2)).trans hw466_2)⟩ (fun hHeld => ?_)
          clear hK K
          refine mN _ ?_
          refine zO HT_ fun K hK => ?_
          refine gS Tryz.func48 #[.slice bF aD.length bG, .slice bH a8.length bI] ?_
          with_reducible refine (graftwoodref05_Minus.calls k2 _ _ aD _ _ a8 aG _ (cW (Kd.R_reads' ah.out).2.2) ((Kd.R_reads' ah.out).2.1) (cW (Kd.R_reads' au.out).2.2) ((Kd.R_reads' au.out).2.1) A19.out).mono ?_
          rintro e w27 ⟨bJ, rfl, ho0, hb⟩
          refine ⟨_, rfl, ?_⟩
          have aE := am (Kd.R_lower (Kd.R_new' (Kd.R_new' ho0 (Kd.R_lt (rT ah.out))) (Kd.R_lt (rT au.out))) (below_size (eTx HB.out)))
          replace ah := am (Kd.R_elder' (rT ah.out) (Kd.R_base ho0) hb)
          replace au := am (Kd.R_elder' (rT au.out) (Kd.R_base ho0) hb)
          replace HB := am (sTx HB.out hb)
          refine hK.out _ _ ⟨((HB.out.cell (World.block_lt_of_cell? w _ hw465_0)).trans hw465_0), ((HB.out.cell (World.block_lt_of_cell? w _ hw465_1)).trans hw465_1), ((HB.out.cell (World.block_lt_of_cell? w _ hw465_2)).trans hw465_2), ((HB.out.cell (World.block_lt_of_cell? w _ hw466_0)).trans hw466_0), ((HB.out.cell (World.block_lt_of_cell? w _ hw466_1)).trans hw466_1), ((HB.out.cell (World.block_lt_of_cell? w _ hw466_2)).trans hw466_2)⟩ (fun hHeld => ?_)
          clear hK K
          refine mN _ ?_
          refine zT HT_ ?_
          refine done_ (done_of HT_.out rfK) ?_
          have p473 : 0 ≤ (aa : Int) := of_decide_eq_true rfA
          have q473 : aa < (l1.length : Int) := of_decide_eq_true rfA
          obtain ⟨ad473, e473, az, aA, aC⟩ := at_T75 HR1.out aa p473 q473
          obtain rfl : ad455 = ad473 := (by injection e473)
          replace az := (HB.out.cell (World.block_lt_of_cell? w _ az)).trans az
          replace aA := (HB.out.cell (World.block_lt_of_cell? w _ aA)).trans aA
          replace aC := (HB.out.cell (World.block_lt_of_cell? w _ aC)).trans aC
          replace p473 := eq_true p473
          replace q473 := eq_true q473
          try go_wp2
          go_roundg k2
          case measure => have := HK1.out; have := HK2.out; omega
          case rel => exact ⟨(aG), (wrap64 (aa + 1)), rfG, H', ⟨by have := HK1.out; have := HK2.out; omega⟩, ⟨by (with_reducible repeat (first | apply Kd.R_alloc | apply Kd.R_drewN | apply Kd.R_drew)); exact Kd.R_mono aE.out (fun _ hk => trivial)⟩, ⟨eTx HB.out⟩⟩
         ·have bo := beq_eq_false_iff_ne.mpr c20
          have bp := bne_iff_ne.mpr c20
          replace H := bnd H; obtain ⟨a3, A28, H⟩ := H
          have H' := Aside0.mk H
          clear H
          try go_wp2
          replace ah := am (Kd.R_drew ah.out)
          replace HB := am (below_drew1 HB.out)
          have p455 : 0 ≤ (aa : Int) := of_decide_eq_true rfA
          have q455 : aa < (l1.length : Int) := of_decide_eq_true rfA
          obtain ⟨ad455, e455, ab, ac, ad⟩ := at_T75 HR1.out aa p455 q455
          have hw455_2 := ad
          have hw455_1 := ac
          have hw455_0 := ab
          cases e455
          replace ab := (HB.out.cell (World.block_lt_of_cell? w _ ab)).trans ab
          replace ac := (HB.out.cell (World.block_lt_of_cell? w _ ac)).trans ac
          replace ad := (HB.out.cell (World.block_lt_of_cell? w _ ad)).trans ad
          replace p455 := eq_true p455
          replace q455 := eq_true q455
          have p457 : 0 ≤ (aa : Int) := of_decide_eq_true rfA
          have q457 : aa < (l1.length : Int) := of_decide_eq_true rfA
          obtain ⟨ad457, e457, ae, af, ag⟩ := at_T75 HR1.out aa p457 q457
          have hw457_2 := ag
          have hw457_1 := af
          have hw457_0 := ae
          obtain rfl : ad455 = ad457 := (by injection e457)
          replace ae := (HB.out.cell (World.block_lt_of_cell? w _ ae)).trans ae
          replace af := (HB.out.cell (World.block_lt_of_cell? w _ af)).trans af
          replace ag := (HB.out.cell (World.block_lt_of_cell? w _ ag)).trans ag
          replace p457 := eq_true p457
          replace q457 := eq_true q457
          refine start_ (n := 13) (S := fun w' => w'.cell? (ad455.add ((aa).toNat * 3)) = some (.string ((rd_T75 l1 aa).f0)) ∧ w'.cell? ⟨(ad455.add ((aa).toNat * 3)).block, (ad455.add ((aa).toNat * 3)).off + 1, none⟩ = some (.string ((rd_T75 l1 aa).f1)) ∧ w'.cell? ⟨(ad455.add ((aa).toNat * 3)).block, (ad455.add ((aa).toNat * 3)).off + 2, none⟩ = some (.string ((rd_T75 l1 aa).f2)) ∧ w'.cell? (ad455.add ((aa).toNat * 3)) = some (.string ((rd_T75 l1 aa).f0)) ∧ w'.cell? ⟨(ad455.add ((aa).toNat * 3)).block, (ad455.add ((aa).toNat * 3)).off + 1, none⟩ = some (.string ((rd_T75 l1 aa).f1)) ∧ w'.cell? ⟨(ad455.add ((aa).toNat * 3)).block, (ad455.add ((aa).toNat * 3)).off + 2, none⟩ = some (.string ((rd_T75 l1 aa).f2))) (ds := []) (bA 13 0) rfK rfl rfK ⟨((HB.out.cell (World.block_lt_of_cell? w _ hw455_0)).trans hw455_0), ((HB.out.cell (World.block_lt_of_cell? w _ hw455_1)).trans hw455_1), ((HB.out.cell (World.block_lt_of_cell? w _ hw455_2)).trans hw455_2), ((HB.out.cell (World.block_lt_of_cell? w _ hw457_0)).trans hw457_0), ((HB.out.cell (World.block_lt_of_cell? w _ hw457_1)).trans hw457_1), ((HB.out.cell (World.block_lt_of_cell? w _ hw457_2)).trans hw457_2)⟩ (fun hHeld => ?_); refine with_tabW graftwoodref17_Apply.tab9 graftwoodref17_Apply.bits9 (fun HT_ HW_ => ?_)
          generalize wr.drew = w29 at ah HB ab ac ad ae af ag hHeld ⊢
          refine pT 0 28 (bA 13 1) HT_.out ?_
          refine pT 1 29 (bA 13 3) HT_.out ?_
          refine pT 2 30 (bA 13 7) HT_.out ?_
          refine pT 3 31 (bA 13 15) HT_.out ?_
          refine pT 4 32 (bA 13 31) HT_.out ?_
          refine pT 7 35 (bA 13 159) HT_.out ?_
          refine pT 8 36 (bA 13 415) HT_.out ?_
          refine pT 9 37 (bA 13 927) HT_.out ?_
          refine pT 10 38 (bA 13 1951) HT_.out ?_
          refine tT 5 33 (bA 13 1983) HT_.out HW_.out hHeld ?_ (hy := by rintro w' ⟨s0, s1, s2, s3, s4, s5⟩; go_simp; with_reducible rfl)
          refine tT 11 39 (bA 13 4031) HT_.out HW_.out hHeld ?_ (hy := by rintro w' ⟨s0, s1, s2, s3, s4, s5⟩; go_simp; with_reducible rfl)
          refine oT 6 (bA 13 4095) HT_.out fun K hK => ?_
          refine gS Tryz.func19 #[.slice A0 l0.length c0, .string ((rd_T75 l1 aa).f0)] ?_
          with_reducible refine (graftwoodref17_Pick.calls k2 _ _ l0 ((rd_T75 l1 aa).f0) aY _ (cW (Kd.C_below HR0.out HB.out)) HC0.out A9.out).mono ?_
          rintro e w' ⟨rfl, ⟨nd, rfl⟩⟩
          refine ⟨_, rfl, ?_⟩
          refine hK.out _ _ ⟨((HB.out.cell (World.block_lt_of_cell? w _ hw455_0)).trans hw455_0), ((HB.out.cell (World.block_lt_of_cell? w _ hw455_1)).trans hw455_1), ((HB.out.cell (World.block_lt_of_cell? w _ hw455_2)).trans hw455_2), ((HB.out.cell (World.block_lt_of_cell? w _ hw457_0)).trans hw457_0), ((HB.out.cell (World.block_lt_of_cell? w _ hw457_1)).trans hw457_1), ((HB.out.cell (World.block_lt_of_cell? w _ hw457_2)).trans hw457_2)⟩ (fun hHeld => ?_)
          clear hK K
          refine mN 34 ?_
          refine pT 12 40 (bA 13 8191) HT_.out ?_
          refine done_ (done_of HT_.out rfK) ?_
          have p458 : 0 ≤ (aa : Int) := of_decide_eq_true rfA
          have q458 : aa < (l1.length : Int) := of_decide_eq_true rfA
          obtain ⟨ad458, e458, ai, aj, ak⟩ := at_T75 HR1.out aa p458 q458
          obtain rfl : ad455 = ad458 := (by injection e458)
          replace ai := (HB.out.cell (World.block_lt_of_cell? w _ ai)).trans ai
          replace aj := (HB.out.cell (World.block_lt_of_cell? w _ aj)).trans aj
          replace ak := (HB.out.cell (World.block_lt_of_cell? w _ ak)).trans ak
          replace p458 := eq_true p458
          replace q458 := eq_true q458
          try go_wp2
          (try (rw [drewN_self w29]; generalize hq_ : World.drewN w29 _ = w29; have n0_ : Aside0 (Kd.R k55 55 w29 w.heap.size (fun _ => True) u6 aD) := ⟨by rw [← hq_]; exact (rT ah.out)⟩; have n1_ : Aside0 (Below w.heap.size w w29) := ⟨by rw [← hq_]; exact (eTx HB.out)⟩; clear ah HB hq_; have ah := n0_; have HB := n1_; clear n0_ n1_))
          replace ah := am (Kd.R_drew ah.out)
          replace HB := am (below_drew1 HB.out)
          have p465 : 0 ≤ (aa : Int) := of_decide_eq_true rfA
          have q465 : aa < (l1.length : Int) := of_decide_eq_true rfA
          obtain ⟨ad465, e465, al, an, ao⟩ := at_T75 HR1.out aa p465 q465
          have hw465_2 := ao
          have hw465_1 := an
          have hw465_0 := al
          obtain rfl : ad455 = ad465 := (by injection e465)
          replace al := (HB.out.cell (World.block_lt_of_cell? w _ al)).trans al
          replace an := (HB.out.cell (World.block_lt_of_cell? w _ an)).trans an
          replace ao := (HB.out.cell (World.block_lt_of_cell? w _ ao)).trans ao
          replace p465 := eq_true p465
          replace q465 := eq_true q465
          have p466 : 0 ≤ (aa : Int) := of_decide_eq_true rfA
          have q466 : aa < (l1.length : Int) := of_decide_eq_true rfA
          obtain ⟨ad466, e466, ap, aq, ar⟩ := at_T75 HR1.out aa p466 q466
          have hw466_2 := ar
          have hw466_1 := aq
          have hw466_0 := ap
          obtain rfl : ad455 = ad466 := (by injection e466)
          replace ap := (HB.out.cell (World.block_lt_of_cell? w _ ap)).trans ap
          replace aq := (HB.out.cell (World.block_lt_of_cell? w _ aq)).trans aq
          replace ar := (HB.out.cell (World.block_lt_of_cell? w _ ar)).trans ar
          replace p466 := eq_true p466
          replace q466 := eq_true q466
          refine start_ (n := 15) (S := fun w' => w'.cell? (ad455.add ((aa).toNat * 3)) = some (.string ((rd_T75 l1 aa).f0)) ∧ w'.cell? ⟨(ad455.add ((aa).toNat * 3)).block, (ad455.add ((aa).toNat * 3)).off + 1, none⟩ = some (.string ((rd_T75 l1 aa).f1)) ∧ w'.cell? ⟨(ad455.add ((aa).toNat * 3)).block, (ad455.add ((aa).toNat * 3)).off + 2, none⟩ = some (.string ((rd_T75 l1 aa).f2)) ∧ w'.cell? (ad455.add ((aa).toNat * 3)) = some (.string ((rd_T75 l1 aa).f0)) ∧ w'.cell? ⟨(ad455.add ((aa).toNat * 3)).block, (ad455.add ((aa).toNat * 3)).off + 1, none⟩ = some (.string ((rd_T75 l1 aa).f1)) ∧ w'.cell? ⟨(ad455.add ((aa).toNat * 3)).block, (ad455.add ((aa).toNat * 3)).off + 2, none⟩ = some (.string ((rd_T75 l1 aa).f2))) (ds := []) (bA 15 0) rfK rfl rfK ⟨((HB.out.cell (World.block_lt_of_cell? w _ hw465_0)).trans hw465_0), ((HB.out.cell (World.block_lt_of_cell? w _ hw465_1)).trans hw465_1), ((HB.out.cell (World.block_lt_of_cell? w _ hw465_2)).trans hw465_2), ((HB.out.cell (World.block_lt_of_cell? w _ hw466_0)).trans hw466_0), ((HB.out.cell (World.block_lt_of_cell? w _ hw466_1)).trans hw466_1), ((HB.out.cell (World.block_lt_of_cell? w _ hw466_2)).trans hw466_2)⟩ (fun hHeld => ?_); refine with_tabW graftwoodref17_Apply.tab12 graftwoodref17_Apply.bits12 (fun HT_ HW_ => ?_)
          generalize w29.drew = w30 at ah HB al an ao ap aq ar hHeld ⊢
          iterate 5 refine zT HT_ ?_
          refine zL HT_ HW_ hHeld ?_ (hy := by rintro w' ⟨s0, s1, s2, s3, s4, s5⟩; go_simp; with_reducible rfl)
          iterate 4 refine zT HT_ ?_
          refine zL HT_ HW_ hHeld ?_ (hy := by rintro w' ⟨s0, s1, s2, s3, s4, s5⟩; go_simp; with_reducible rfl)
          refine zT HT_ ?_
          refine zO HT_ fun K hK => ?_
          refine Kd.R_lit_step k55 _ 55 ?hg (N := 59) ?hd (xs := ([(⟨(rd_T75 l1 aa).f0, (rd_T75 l1 aa).f1⟩ : S55)] : List (S55))) (inner := [.string ((rd_T75 l1 aa).f0), .string ((rd_T75 l1 aa).f1)]) (ok := fun _ => True) (okp := fun _ => True) ?hr ?hp (fun _ hk => hk) trivial (Below.refl _ _) (Nat.le_refl _) (by simp) ?_; (case hd => rfl); (case hg => rfl); (case hr => first | (go_simp; done) | (go_simp; rfl)); (case hp => exact (Reps.c2 (show Kd.M k55 _ _ _ (⟨(rd_T75 l1 aa).f0, (rd_T75 l1 aa).f1⟩ : S55) [.string ((rd_T75 l1 aa).f0), .string ((rd_T75 l1 aa).f1)] from (k55_mkM _ _ _ (⟨(rd_T75 l1 aa).f0, (rd_T75 l1 aa).f1⟩ : S55) )) (Reps.none _ _)))
          intro bE w31 ho32 hb hg_ hnew_
          clear hg_ hnew_
          (first | rw [← Ny467.out] at ho32 | (simp only [Int.reduceToNat] at ho32; rw [← Ny467.out] at ho32))
          have au := am (Kd.R_lower (Kd.R_new' ho32 (Kd.R_lt (rT ah.out))) (below_size (eTx HB.out)))
          replace ah := am (Kd.R_elder' (rT ah.out) (Kd.R_base ho32) hb)
          replace HB := am (sTx HB.out hb)
          clear hb ho32
          obtain ⟨bK, bL, bt⟩ := Kd.R_slice ah.out
          (first | subst bt | (injection bt with f1_ f2_ f3_; have f4_ := f1_.symm; have f5_ := f3_.symm; clear f1_ f2_ f3_; subst f4_; subst f5_))
          obtain ⟨bM, bN, bu⟩ := Kd.R_slice au.out
          (first | subst bu | (injection bu with f1_ f2_ f3_; have f4_ := f1_.symm; have f5_ := f3_.symm; clear f1_ f2_ f3_; subst f4_; subst f5_))
          refine hK.out _ _ ⟨((HB.out.cell (World.block_lt_of_cell? w _ hw465_0)).trans hw465_0), ((HB.out.cell (World.block_lt_of_cell? w _ hw465_1)).trans hw465_1), ((HB.out.cell (World.block_lt_of_cell? w _ hw465_2)).trans hw465_2), ((HB.out.cell (World.block_lt_of_cell? w _ hw466_0)).trans hw466_0), ((HB.out.cell (World.block_lt_of_cell? w _ hw466_1)).trans hw466_1), ((HB.out.cell (World.block_lt_of_cell? w _ hw466_2)).trans hw466_2)⟩ (fun hHeld => ?_)
          clear hK K
          refine mN _ ?_
          refine zO HT_ fun K hK => ?_
          refine gS Tryz.func48 #[.slice bK aD.length bL, .slice bM a8.length bN] ?_
          with_reducible refine (graftwoodref05_Minus.calls k2 _ _ aD _ _ a8 aG _ (cW (Kd.R_reads' ah.out).2.2) ((Kd.R_reads' ah.out).2.1) (cW (Kd.R_reads' au.out).2.2) ((Kd.R_reads' au.out).2.1) A19.out).mono ?_
          rintro e w35 ⟨bJ, rfl, ho0, hb⟩
          refine ⟨_, rfl, ?_⟩
          have aE := am (Kd.R_lower (Kd.R_new' (Kd.R_new' ho0 (Kd.R_lt (rT ah.out))) (Kd.R_lt (rT au.out))) (below_size (eTx HB.out)))
          replace ah := am (Kd.R_elder' (rT ah.out) (Kd.R_base ho0) hb)
          replace au := am (Kd.R_elder' (rT au.out) (Kd.R_base ho0) hb)
          replace HB := am (sTx HB.out hb)
          refine hK.out _ _ ⟨((HB.out.cell (World.block_lt_of_cell? w _ hw465_0)).trans hw465_0), ((HB.out.cell (World.block_lt_of_cell? w _ hw465_1)).trans hw465_1), ((HB.out.cell (World.block_lt_of_cell? w _ hw465_2)).trans hw465_2), ((HB.out.cell (World.block_lt_of_cell? w _ hw466_0)).trans hw466_0), ((HB.out.cell (World.block_lt_of_cell? w _ hw466_1)).trans hw466_1), ((HB.out.cell (World.block_lt_of_cell? w _ hw466_2)).trans hw466_2)⟩ (fun hHeld => ?_)
          clear hK K
          refine mN _ ?_
          refine zT HT_ ?_
          refine done_ (done_of HT_.out rfK) ?_
          have p473 : 0 ≤ (aa : Int) := of_decide_eq_true rfA
          have q473 : aa < (l1.length : Int) := of_decide_eq_true rfA
          obtain ⟨ad473, e473, az, aA, aC⟩ := at_T75 HR1.out aa p473 q473
          obtain rfl : ad455 = ad473 := (by injection e473)
          replace az := (HB.out.cell (World.block_lt_of_cell? w _ az)).trans az
          replace aA := (HB.out.cell (World.block_lt_of_cell? w _ aA)).trans aA
          replace aC := (HB.out.cell (World.block_lt_of_cell? w _ aC)).trans aC
          replace p473 := eq_true p473
          replace q473 := eq_true q473
          try go_wp2
          replace ah := am (Kd.R_drew ah.out)
          replace au := am (Kd.R_drew au.out)
          replace aE := am (Kd.R_drew aE.out)
          replace HB := am (below_drew1 HB.out)
          have p474 : 0 ≤ (aa : Int) := of_decide_eq_true rfA
          have q474 : aa < (l1.length : Int) := of_decide_eq_true rfA
          obtain ⟨ad474, e474, aQ, aR, aU⟩ := at_T75 HR1.out aa p474 q474
          have hw474_2 := aU
          have hw474_1 := aR
          have hw474_0 := aQ
          obtain rfl : ad455 = ad474 := (by injection e474)
          replace aQ := (HB.out.cell (World.block_lt_of_cell? w _ aQ)).trans aQ
          replace aR := (HB.out.cell (World.block_lt_of_cell? w _ aR)).trans aR
          replace aU := (HB.out.cell (World.block_lt_of_cell? w _ aU)).trans aU
          replace p474 := eq_true p474
          replace q474 := eq_true q474
          have p475 : 0 ≤ (aa : Int) := of_decide_eq_true rfA
          have q475 : aa < (l1.length : Int) := of_decide_eq_true rfA
          obtain ⟨ad475, e475, aV, aW, aX⟩ := at_T75 HR1.out aa p475 q475
          have hw475_2 := aX
          have hw475_1 := aW
          have hw475_0 := aV
          obtain rfl : ad455 = ad475 := (by injection e475)
          replace aV := (HB.out.cell (World.block_lt_of_cell? w _ aV)).trans aV
          replace aW := (HB.out.cell (World.block_lt_of_cell? w _ aW)).trans aW
          replace aX := (HB.out.cell (World.block_lt_of_cell? w _ aX)).trans aX
          replace p475 := eq_true p475
          replace q475 := eq_true q475
          obtain ⟨bO, bP, bv⟩ := Kd.R_slice aE.out
          (first | subst bv | (injection bv with f1_ f2_ f3_; have f4_ := f1_.symm; have f5_ := f3_.symm; clear f1_ f2_ f3_; subst f4_; subst f5_))
          refine start_ (n := 14) (S := fun w' => w'.cell? (ad455.add ((aa).toNat * 3)) = some (.string ((rd_T75 l1 aa).f0)) ∧ w'.cell? ⟨(ad455.add ((aa).toNat * 3)).block, (ad455.add ((aa).toNat * 3)).off + 1, none⟩ = some (.string ((rd_T75 l1 aa).f1)) ∧ w'.cell? ⟨(ad455.add ((aa).toNat * 3)).block, (ad455.add ((aa).toNat * 3)).off + 2, none⟩ = some (.string ((rd_T75 l1 aa).f2)) ∧ w'.cell? (ad455.add ((aa).toNat * 3)) = some (.string ((rd_T75 l1 aa).f0)) ∧ w'.cell? ⟨(ad455.add ((aa).toNat * 3)).block, (ad455.add ((aa).toNat * 3)).off + 1, none⟩ = some (.string ((rd_T75 l1 aa).f1)) ∧ w'.cell? ⟨(ad455.add ((aa).toNat * 3)).block, (ad455.add ((aa).toNat * 3)).off + 2, none⟩ = some (.string ((rd_T75 l1 aa).f2))) (ds := []) (bA 14 0) rfK rfl rfK ⟨((HB.out.cell (World.block_lt_of_cell? w _ hw474_0)).trans hw474_0), ((HB.out.cell (World.block_lt_of_cell? w _ hw474_1)).trans hw474_1), ((HB.out.cell (World.block_lt_of_cell? w _ hw474_2)).trans hw474_2), ((HB.out.cell (World.block_lt_of_cell? w _ hw475_0)).trans hw475_0), ((HB.out.cell (World.block_lt_of_cell? w _ hw475_1)).trans hw475_1), ((HB.out.cell (World.block_lt_of_cell? w _ hw475_2)).trans hw475_2)⟩ (fun hHeld => ?_); refine with_tabW graftwoodref17_Apply.tab14 graftwoodref17_Apply.bits14 (fun HT_ HW_ => ?_)
          generalize w35.drew = w36 at ah au aE HB aQ aR aU aV aW aX hHeld ⊢
          iterate 5 refine zT HT_ ?_
          refine zL HT_ HW_ hHeld ?_ (hy := by rintro w' ⟨s0, s1, s2, s3, s4, s5⟩; go_simp; with_reducible rfl)
          iterate 4 refine zT HT_ ?_
          refine zL HT_ HW_ hHeld ?_ (hy := by rintro w' ⟨s0, s1, s2, s3, s4, s5⟩; go_simp; with_reducible rfl)
          refine zT HT_ ?_
          refine zO HT_ fun K hK => ?_
          refine gS Tryz.func49 #[.slice bO aG.length bP, .agg #[.string ((rd_T75 l1 aa).f0), .string ((rd_T75 l1 aa).f2)]] ?_
          with_reducible refine (graftwoodref05_With.calls k2 _ _ aG ((rd_T75 l1 aa).f0) ((rd_T75 l1 aa).f2) a3 _ (cW (Kd.R_reads' aE.out).2.2) ((Kd.R_reads' aE.out).2.1) A28.out).mono ?_
          rintro e w38 ⟨bU, rfl, ho0, hb⟩
          refine ⟨_, rfl, ?_⟩
          have bw := am (Kd.R_lower (Kd.R_new' (Kd.R_new' (Kd.R_new' ho0 (Kd.R_lt (rT ah.out))) (Kd.R_lt (rT au.out))) (Kd.R_lt (rT aE.out))) (below_size (eTx HB.out)))
          replace ah := am (Kd.R_elder' (rT ah.out) (Kd.R_base ho0) hb)
          replace au := am (Kd.R_elder' (rT au.out) (Kd.R_base ho0) hb)
          replace aE := am (Kd.R_elder' (rT aE.out) (Kd.R_base ho0) hb)
          replace HB := am (sTx HB.out hb)
          refine hK.out _ _ ⟨((HB.out.cell (World.block_lt_of_cell? w _ hw474_0)).trans hw474_0), ((HB.out.cell (World.block_lt_of_cell? w _ hw474_1)).trans hw474_1), ((HB.out.cell (World.block_lt_of_cell? w _ hw474_2)).trans hw474_2), ((HB.out.cell (World.block_lt_of_cell? w _ hw475_0)).trans hw475_0), ((HB.out.cell (World.block_lt_of_cell? w _ hw475_1)).trans hw475_1), ((HB.out.cell (World.block_lt_of_cell? w _ hw475_2)).trans hw475_2)⟩ (fun hHeld => ?_)
          clear hK K
          refine mN _ ?_
          refine zT HT_ ?_
          refine done_ (done_of HT_.out rfK) ?_
          try go_wp2
          go_roundg k2
          case measure => have := HK1.out; have := HK2.out; omega
          case rel => exact ⟨(a3), (wrap64 (aa + 1)), rfG, H', ⟨by have := HK1.out; have := HK2.out; omega⟩, ⟨by (with_reducible repeat (first | apply Kd.R_alloc | apply Kd.R_drewN | apply Kd.R_drew)); exact Kd.R_mono bw.out (fun _ hk => trivial)⟩, ⟨eTx HB.out⟩⟩
       ·have bc := beq_eq_false_iff_ne.mpr c10
        have be := bne_iff_ne.mpr c10
        replace H := prB H; obtain ⟨rfl, rfl⟩ := H
        try go_wp2
        replace ah := am (Kd.R_drew ah.out)
        replace HB := am (below_drew1 HB.out)
        have p455 : 0 ≤ (aa : Int) := of_decide_eq_true rfA
        have q455 : aa < (l1.length : Int) := of_decide_eq_true rfA
        obtain ⟨ad455, e455, ab, ac, ad⟩ := at_T75 HR1.out aa p455 q455
        have hw455_2 := ad
        have hw455_1 := ac
        have hw455_0 := ab
        cases e455
        replace ab := (HB.out.cell (World.block_lt_of_cell? w _ ab)).trans ab
        replace ac := (HB.out.cell (World.block_lt_of_cell? w _ ac)).trans ac
        replace ad := (HB.out.cell (World.block_lt_of_cell? w _ ad)).trans ad
        replace p455 := eq_true p455
        replace q455 := eq_true q455
        have p457 : 0 ≤ (aa : Int) := of_decide_eq_true rfA
        have q457 : aa < (l1.length : Int) := of_decide_eq_true rfA
        obtain ⟨ad457, e457, ae, af, ag⟩ := at_T75 HR1.out aa p457 q457
        have hw457_2 := ag
        have hw457_1 := af
        have hw457_0 := ae
        obtain rfl : ad455 = ad457 := (by injection e457)
        replace ae := (HB.out.cell (World.block_lt_of_cell? w _ ae)).trans ae
        replace af := (HB.out.cell (World.block_lt_of_cell? w _ af)).trans af
        replace ag := (HB.out.cell (World.block_lt_of_cell? w _ ag)).trans ag
        replace p457 := eq_true p457
        replace q457 := eq_true q457
        refine start_ (n := 13) (S := fun w' => w'.cell? (ad455.add ((aa).toNat * 3)) = some (.string ((rd_T75 l1 aa).f0)) ∧ w'.cell? ⟨(ad455.add ((aa).toNat * 3)).block, (ad455.add ((aa).toNat * 3)).off + 1, none⟩ = some (.string ((rd_T75 l1 aa).f1)) ∧ w'.cell? ⟨(ad455.add ((aa).toNat * 3)).block, (ad455.add ((aa).toNat * 3)).off + 2, none⟩ = some (.string ((rd_T75 l1 aa).f2)) ∧ w'.cell? (ad455.add ((aa).toNat * 3)) = some (.string ((rd_T75 l1 aa).f0)) ∧ w'.cell? ⟨(ad455.add ((aa).toNat * 3)).block, (ad455.add ((aa).toNat * 3)).off + 1, none⟩ = some (.string ((rd_T75 l1 aa).f1)) ∧ w'.cell? ⟨(ad455.add ((aa).toNat * 3)).block, (ad455.add ((aa).toNat * 3)).off + 2, none⟩ = some (.string ((rd_T75 l1 aa).f2))) (ds := []) (bA 13 0) rfK rfl rfK ⟨((HB.out.cell (World.block_lt_of_cell? w _ hw455_0)).trans hw455_0), ((HB.out.cell (World.block_lt_of_cell? w _ hw455_1)).trans hw455_1), ((HB.out.cell (World.block_lt_of_cell? w _ hw455_2)).trans hw455_2), ((HB.out.cell (World.block_lt_of_cell? w _ hw457_0)).trans hw457_0), ((HB.out.cell (World.block_lt_of_cell? w _ hw457_1)).trans hw457_1), ((HB.out.cell (World.block_lt_of_cell? w _ hw457_2)).trans hw457_2)⟩ (fun hHeld => ?_); refine with_tabW graftwoodref17_Apply.tab9 graftwoodref17_Apply.bits9 (fun HT_ HW_ => ?_)
        generalize wr.drew = w39 at ah HB ab ac ad ae af ag hHeld ⊢
        refine pT 0 28 (bA 13 1) HT_.out ?_
        refine pT 1 29 (bA 13 3) HT_.out ?_
        refine pT 2 30 (bA 13 7) HT_.out ?_
        refine pT 3 31 (bA 13 15) HT_.out ?_
        refine pT 4 32 (bA 13 31) HT_.out ?_
        refine pT 7 35 (bA 13 159) HT_.out ?_
        refine pT 8 36 (bA 13 415) HT_.out ?_
        refine pT 9 37 (bA 13 927) HT_.out ?_
        refine pT 10 38 (bA 13 1951) HT_.out ?_
        refine tT 5 33 (bA 13 1983) HT_.out HW_.out hHeld ?_ (hy := by rintro w' ⟨s0, s1, s2, s3, s4, s5⟩; go_simp; with_reducible rfl)
        refine tT 11 39 (bA 13 4031) HT_.out HW_.out hHeld ?_ (hy := by rintro w' ⟨s0, s1, s2, s3, s4, s5⟩; go_simp; with_reducible rfl)
        refine oT 6 (bA 13 4095) HT_.out fun K hK => ?_
        refine gS Tryz.func19 #[.slice A0 l0.length c0, .string ((rd_T75 l1 aa).f0)] ?_
        with_reducible refine (graftwoodref17_Pick.calls k2 _ _ l0 ((rd_T75 l1 aa).f0) aY _ (cW (Kd.C_below HR0.out HB.out)) HC0.out A9.out).mono ?_
        rintro e w' ⟨rfl, ⟨nd, rfl⟩⟩
        refine ⟨_, rfl, ?_⟩
        refine hK.out _ _ ⟨((HB.out.cell (World.block_lt_of_cell? w _ hw455_0)).trans hw455_0), ((HB.out.cell (World.block_lt_of_cell? w _ hw455_1)).trans hw455_1), ((HB.out.cell (World.block_lt_of_cell? w _ hw455_2)).trans hw455_2), ((HB.out.cell (World.block_lt_of_cell? w _ hw457_0)).trans hw457_0), ((HB.out.cell (World.block_lt_of_cell? w _ hw457_1)).trans hw457_1), ((HB.out.cell (World.block_lt_of_cell? w _ hw457_2)).trans hw457_2)⟩ (fun hHeld => ?_)
        clear hK K
        refine mN 34 ?_
        refine pT 12 40 (bA 13 8191) HT_.out ?_
        refine done_ (done_of HT_.out rfK) ?_
        try go_wp2
        go_ret2
        exact ⟨_, rfF, rfM, eTx HB.out⟩
      ·have bz := decide_eq_false c7
       clear c7
       replace H := prB H; obtain ⟨rfl, rfl⟩ := H
       go_wp2
       go_ret2
       exact ⟨_, rfF, by (with_reducible repeat (first | apply Kd.R_alloc | apply Kd.R_drewN | apply Kd.R_drew)); exact ah.out, eTx HB.out⟩

end Go.Proofs.YtknmfmedklfepaaGreatDoor.P
