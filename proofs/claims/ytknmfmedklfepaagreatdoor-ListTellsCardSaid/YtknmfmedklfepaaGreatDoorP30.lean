-- half the indentation
import Derived.Test.YtknmfmedklfepaaGreatDoorSqz
import Derived.Test.YtknmfmedklfepaaGreatDoorP0
import Derived.Test.YtknmfmedklfepaaGreatDoorP27
import Derived.Test.YtknmfmedklfepaaGreatDoorP29
namespace Go.Proofs.YtknmfmedklfepaaGreatDoor.P
open Go.RowKit Go.Proofs.YtknmfmedklfepaaGreatDoorW.PrintWords Go.Proofs.YtknmfmedklfepaaGreatDoorW.PrintLast Go.Proofs.YtknmfmedklfepaaGreatDoorW.PrintMore
attribute [local go_sem] max2_int min2_int max_two min_two max_three min_three max_four min_four
set_option linter.unusedVariables false
set_option linter.unusedSimpArgs false
set_option maxHeartbeats 8000000
set_option maxRecDepth 100000

/-! ### graftwoodref05_Check: function 34 -/
def graftwoodref05_Check.l0 : Nat → List (S55) → Int → Option (Bool)
 | 0, _, _ => none
 | k + 1, x0, x3 => if x3 < (x0.length : Int) then (if 0 ≤ x3 then ((graftwoodref05_May.f k ((rd_T55 x0 x3).f0) ((rd_T55 x0 x3).f1)).bind fun ap => (if ap = true then (if x3 > 0 then (if 0 ≤ (wrap64 (x3 - 1)) then (if (wrap64 (x3 - 1)) < (x0.length : Int) then ((graftwoodref05_Less.f k ((rd_T55 x0 (wrap64 (x3 - 1))).f0) ((rd_T55 x0 (wrap64 (x3 - 1))).f1) ((rd_T55 x0 x3).f0) ((rd_T55 x0 x3).f1)).bind fun al => (if al = true then (graftwoodref05_Check.l0 k x0 (wrap64 (x3 + 1))) else (some false))) else (none)) else (none)) else (graftwoodref05_Check.l0 k x0 (wrap64 (x3 + 1)))) else (some false))) else (none)) else (some true)
def graftwoodref05_Check.f (k : Nat) (l0 : List (S55)) : Option (Bool) := graftwoodref05_Check.l0 k l0 0
theorem graftwoodref05_Check.mono_l : ∀ k, (∀ y0 y1, LeO (graftwoodref05_Check.l0 k y0 y1) (graftwoodref05_Check.l0 (k + 1) y0 y1))
 | 0 => fun _ _ r h => by simp [graftwoodref05_Check.l0] at h
 | k + 1 => by
  have ih0 := graftwoodref05_Check.mono_l k
  ·intro y0 y1
   unfold graftwoodref05_Check.l0
   repeat' first | (with_reducible first | apply ih0 | apply graftwoodref05_Less.mono | apply graftwoodref05_May.mono | apply LeO.refl | apply LeO.none | apply LeO.ite | refine LeO.bind ?_ (fun _ => ?_)) | apply ih0 | apply graftwoodref05_Less.mono | apply graftwoodref05_May.mono | exact LeO.none _ | refine LeO.ite ?_ ?_ | refine LeO.bind ?_ (fun _ => ?_)
theorem graftwoodref05_Check.mono : ∀ a0 k, LeO (graftwoodref05_Check.f k a0) (graftwoodref05_Check.f (k + 1) a0) := by
 intro a0 k
 have ih0 := graftwoodref05_Check.mono_l k
 unfold graftwoodref05_Check.f
 repeat' first | (with_reducible first | apply ih0 | apply graftwoodref05_Less.mono | apply graftwoodref05_May.mono | apply LeO.refl | apply LeO.none | apply LeO.ite | refine LeO.bind ?_ (fun _ => ?_)) | apply ih0 | apply graftwoodref05_Less.mono | apply graftwoodref05_May.mono | exact LeO.none _ | refine LeO.ite ?_ ?_ | refine LeO.bind ?_ (fun _ => ?_)
def graftwoodref05_Check.T4 : Bool × List (List Nat × List Nat) := (true, [([], []), ([], []), ([0, 1], [0, 1]), ([2], [2]), ([3], [3]), ([4], [4]), ([5, 4], [5]), ([6], [6]), ([7, 6], [6, 7]), ([8, 6, 6], [6, 8]), ([9], [9]), ([9], [9]), ([11, 9], [9, 11]), ([10, 12, 9], [9, 10, 12]), ([13, 9], [9, 13]), ([9], [9]), ([9], [9]), ([15, 16, 9], [9, 15, 16]), ([17, 9], [9, 17]), ([14, 18, 9, 9], [9, 14, 18]), ([19, 9], [9, 19]), ([9, 20, 6], [6, 9, 20]), ([6, 21], [6, 21])])
def graftwoodref05_Check.B4 : List Nat := [0, 0, 3, 7, 15, 31, 63, 127, 255, 511, 1023, 1023, 3071, 8191, 16383, 1023, 1023, 99327, 230399, 524287, 1048575, 2097151, 4194303]
theorem graftwoodref05_Check.tab4 : rtab .any (opsOf Tryz.f34 4) = graftwoodref05_Check.T4 := by kernel_rfl
theorem graftwoodref05_Check.bits4 : waitsOk graftwoodref05_Check.T4.2 graftwoodref05_Check.B4 = true := by kernel_rfl
theorem graftwoodref05_Check.calls (k : Nat) (A0 : Option Addr) (c0 : Nat) (l0 : List (S55)) (r : Bool) (w : World) (hr0 : Kd.C k55 w A0 l0.length l0) (hc0 : l0.length ≤ c0) (h : graftwoodref05_Check.f k l0 = some r) :
  Calls Tryz.prog 34 #[.slice A0 l0.length c0] w fun e w' => e = .returned (.bool r) ∧ Below w.heap.size w w' := by
 have hu55 := Tryz.underlying55
 have HR0 := Aside0.mk hr0
 have HC0 := Aside0.mk hc0
 clear hr0 hc0
 have HB := am (Below.refl w.heap.size w)
 unfold graftwoodref05_Check.f at h; have H := h; clear h
 have H' := Aside0.mk H
 clear H
 go_enter Tryz.func34, Tryz.ntmps34
 go_wp2
 go_loopg [3] k (fun kq v3 w' => ∃ (aa : Int), v3 = .int .i64 aa ∧ Aside0 (graftwoodref05_Check.l0 kq l0 aa = some r) ∧ Aside0 (kq ≤ k) ∧ Aside0 (Below w.heap.size w w'))
 case atStart => exact ⟨(0), rfG, H', ⟨Nat.le_refl _⟩, ⟨eTx HB.out⟩⟩
 case round =>
  clear H'
  obtain ⟨aa, rfl, HA, HK1, HB⟩ := hrel
  cases gk with
  | zero => exact absurd HA.out (by simp [graftwoodref05_Check.l0])
  | succ k1 =>
   have H := HA.out
   clear HA
   simp only [graftwoodref05_Check.l0] at H
   replace H := ifP H; rcases H with ⟨c2, H⟩ | ⟨c2, H⟩
   ·have ar := decide_eq_true c2
    clear c2
    replace H := ifN H; obtain ⟨c3, H⟩ := H
    have aw := decide_eq_true c3
    clear c3
    replace H := bnd H; obtain ⟨ap, A4, H⟩ := H
    replace H := ifB H; rcases H with ⟨rfl, H⟩ | ⟨rfl, H⟩
    ·replace H := ifP H; rcases H with ⟨c6, H⟩ | ⟨c6, H⟩
     ·have au : decide (0 < aa) = true := decide_eq_true c6
      clear c6
      obtain ⟨ji7, an⟩ : ∃ j_ : Int, (wrap64 (aa - 1)) = j_ := ⟨_, rfl⟩
      replace H : (if 0 ≤ (ji7) then (if (ji7) < (l0.length : Int) then ((graftwoodref05_Less.f k1 ((rd_T55 l0 (ji7)).f0) ((rd_T55 l0 (ji7)).f1) ((rd_T55 l0 aa).f0) ((rd_T55 l0 aa).f1)).bind fun al => (if al = true then (graftwoodref05_Check.l0 k1 l0 (wrap64 (aa + 1))) else (some false))) else (none)) else (none)) = some r := by first | (rw [an] at H; exact H) | (simp only [an] at H ⊢; exact H)
      (try rw [an] at A4)
      have az : (IntKind.i64.wrap (aa - 1)) = ji7 := (i64_w _).trans an
      replace H := ifN H; obtain ⟨c8, H⟩ := H
      have aB := decide_eq_true c8
      clear c8
      replace H := ifN H; obtain ⟨c9, H⟩ := H
      have aC := decide_eq_true c9
      clear c9
      replace H := bnd H; obtain ⟨al, A10, H⟩ := H
      replace H := ifB H; rcases H with ⟨rfl, H⟩ | ⟨rfl, H⟩
      ·have H' := Aside0.mk H
       clear H
       try go_wp2
       replace HB := am (below_drew1 HB.out)
       have p368 : 0 ≤ (aa : Int) := of_decide_eq_true rfA
       have q368 : aa < (l0.length : Int) := of_decide_eq_true rfA
       obtain ⟨ad368, e368, ab, ac⟩ := at_T55 HR0.out aa p368 q368
       have hw368_1 := ac
       have hw368_0 := ab
       cases e368
       replace ab := (HB.out.cell (World.block_lt_of_cell? w _ ab)).trans ab
       replace ac := (HB.out.cell (World.block_lt_of_cell? w _ ac)).trans ac
       replace p368 := eq_true p368
       replace q368 := eq_true q368
       have p370 : 0 ≤ ((ji7) : Int) := of_decide_eq_true rfA
       have q370 : (ji7) < (l0.length : Int) := of_decide_eq_true rfA
       obtain ⟨ad370, e370, ad, ae⟩ := at_T55 HR0.out (ji7) p370 q370
       have hw370_1 := ae
       have hw370_0 := ad
       obtain rfl : ad368 = ad370 := (by injection e370)
       replace ad := (HB.out.cell (World.block_lt_of_cell? w _ ad)).trans ad
       replace ae := (HB.out.cell (World.block_lt_of_cell? w _ ae)).trans ae
       replace p370 := eq_true p370
       replace q370 := eq_true q370
       have p371 : 0 ≤ (aa : Int) := of_decide_eq_true rfA
       have q371 : aa < (l0.length : Int) := of_decide_eq_true rfA
       obtain ⟨ad371, e371, af, ag⟩ := at_T55 HR0.out aa p371 q371
       have hw371_1 := ag
       have hw371_0 := af
       obtain rfl : ad368 = ad371 := (by injection e371)
       replace af := (HB.out.cell (World.block_lt_of_cell? w _ af)).trans af
       replace ag := (HB.out.cell (World.block_lt_of_cell? w _ ag)).trans ag
       replace p371 := eq_true p371
       replace q371 := eq_true q371
       refine start_ (n := 23) (S := fun w' => w'.cell? (ad368.add ((aa).toNat * 2)) = some (.string ((rd_T55 l0 aa).f0)) ∧ w'.cell? ⟨(ad368.add ((aa).toNat * 2)).block, (ad368.add ((aa).toNat * 2)).off + 1, none⟩ = some (.string ((rd_T55 l0 aa).f1)) ∧ w'.cell? (ad368.add (((ji7)).toNat * 2)) = some (.string ((rd_T55 l0 (ji7)).f0)) ∧ w'.cell? ⟨(ad368.add (((ji7)).toNat * 2)).block, (ad368.add (((ji7)).toNat * 2)).off + 1, none⟩ = some (.string ((rd_T55 l0 (ji7)).f1)) ∧ w'.cell? (ad368.add ((aa).toNat * 2)) = some (.string ((rd_T55 l0 aa).f0)) ∧ w'.cell? ⟨(ad368.add ((aa).toNat * 2)).block, (ad368.add ((aa).toNat * 2)).off + 1, none⟩ = some (.string ((rd_T55 l0 aa).f1))) (ds := []) (bA 23 0) rfK rfl rfK ⟨((HB.out.cell (World.block_lt_of_cell? w _ hw368_0)).trans hw368_0), ((HB.out.cell (World.block_lt_of_cell? w _ hw368_1)).trans hw368_1), ((HB.out.cell (World.block_lt_of_cell? w _ hw370_0)).trans hw370_0), ((HB.out.cell (World.block_lt_of_cell? w _ hw370_1)).trans hw370_1), ((HB.out.cell (World.block_lt_of_cell? w _ hw371_0)).trans hw371_0), ((HB.out.cell (World.block_lt_of_cell? w _ hw371_1)).trans hw371_1)⟩ (fun hHeld => ?_); refine with_tabW graftwoodref05_Check.tab4 graftwoodref05_Check.bits4 (fun HT_ HW_ => ?_)
       generalize wr.drew = w12 at HB ab ac ad ae af ag hHeld ⊢
       refine pT 0 10 (bA 23 1) HT_.out ?_
       refine pT 1 11 (bA 23 3) HT_.out ?_
       refine pT 2 12 (bA 23 7) HT_.out ?_
       refine tT 3 13 (bA 23 15) HT_.out HW_.out hHeld ?_ (hy := by rintro w' ⟨s0, s1, s2, s3, s4, s5⟩; go_simp; with_reducible rfl)
       refine oT 4 (bA 23 31) HT_.out fun K hK => ?_
       refine gS Tryz.func61 #[.agg #[.string ((rd_T55 l0 aa).f0), .string ((rd_T55 l0 aa).f1)]] ?_
       with_reducible refine (graftwoodref05_May.calls k1 ((rd_T55 l0 aa).f0) ((rd_T55 l0 aa).f1) true _ A4.out).mono ?_
       rintro e w13 ⟨rfl, hb⟩
       refine ⟨_, rfl, ?_⟩
       replace HB := am (sTx HB.out hb)
       refine hK.out _ _ ⟨((HB.out.cell (World.block_lt_of_cell? w _ hw368_0)).trans hw368_0), ((HB.out.cell (World.block_lt_of_cell? w _ hw368_1)).trans hw368_1), ((HB.out.cell (World.block_lt_of_cell? w _ hw370_0)).trans hw370_0), ((HB.out.cell (World.block_lt_of_cell? w _ hw370_1)).trans hw370_1), ((HB.out.cell (World.block_lt_of_cell? w _ hw371_0)).trans hw371_0), ((HB.out.cell (World.block_lt_of_cell? w _ hw371_1)).trans hw371_1)⟩ (fun hHeld => ?_)
       clear hK K
       refine mN 14 ?_
       refine pT 5 15 (bA 23 63) HT_.out ?_
       refine pT 6 16 (bA 23 127) HT_.out ?_
       refine pT 7 17 (bA 23 255) HT_.out ?_
       refine pT 8 18 (bA 23 511) HT_.out ?_
       refine pT 9 19 (bA 23 1023) HT_.out ?_
       refine pT 10 20 (bA 23 2047) HT_.out ?_
       refine pT 11 21 (bA 23 4095) HT_.out ?_
       refine pT 12 22 (bA 23 8191) HT_.out ?_
       refine pT 13 23 (bA 23 16383) HT_.out ?_
       refine pT 15 25 (bA 23 49151) HT_.out ?_
       refine pT 16 26 (bA 23 114687) HT_.out ?_
       refine pT 17 27 (bA 23 245759) HT_.out ?_
       refine tT 14 24 (bA 23 262143) HT_.out HW_.out hHeld ?_ (hy := by rintro w' ⟨s0, s1, s2, s3, s4, s5⟩; go_simp; with_reducible rfl)
       refine tT 18 28 (bA 23 524287) HT_.out HW_.out hHeld ?_ (hy := by rintro w' ⟨s0, s1, s2, s3, s4, s5⟩; go_simp; with_reducible rfl)
       refine oT 19 (bA 23 1048575) HT_.out fun K hK => ?_
       refine goes_ Tryz.func62 rfK rfl #[.agg #[.string ((rd_T55 l0 (ji7)).f0), .string ((rd_T55 l0 (ji7)).f1)], .agg #[.string ((rd_T55 l0 aa).f0), .string ((rd_T55 l0 aa).f1)]] (by rfl) rfl rfl (by (try simp only [List.map_toArray, List.map_cons, List.map_nil]); first | done | (simp only [an]; rfl) | rfl | (simp only [List.length_drop, List.length_take]; rfl)) ?_
       with_reducible refine (graftwoodref05_Less.calls k1 ((rd_T55 l0 (ji7)).f0) ((rd_T55 l0 (ji7)).f1) ((rd_T55 l0 aa).f0) ((rd_T55 l0 aa).f1) true _ A10.out).mono ?_
       rintro e w14 ⟨rfl, hb⟩
       refine ⟨_, rfl, ?_⟩
       replace HB := am (sTx HB.out hb)
       refine hK.out _ _ ⟨((HB.out.cell (World.block_lt_of_cell? w _ hw368_0)).trans hw368_0), ((HB.out.cell (World.block_lt_of_cell? w _ hw368_1)).trans hw368_1), ((HB.out.cell (World.block_lt_of_cell? w _ hw370_0)).trans hw370_0), ((HB.out.cell (World.block_lt_of_cell? w _ hw370_1)).trans hw370_1), ((HB.out.cell (World.block_lt_of_cell? w _ hw371_0)).trans hw371_0), ((HB.out.cell (World.block_lt_of_cell? w _ hw371_1)).trans hw371_1)⟩ (fun hHeld => ?_)
       clear hK K
       refine mN 29 ?_
       refine pT 20 30 (bA 23 2097151) HT_.out ?_
       refine pT 21 31 (bA 23 4194303) HT_.out ?_
       refine pT 22 32 (bA 23 8388607) HT_.out ?_
       refine done_ (done_of HT_.out rfK) ?_
       try go_wp2
       go_roundg k1
       case measure => have := HK1.out; omega
       case rel => exact ⟨(wrap64 (aa + 1)), rfG, H', ⟨by have := HK1.out; omega⟩, ⟨eTx HB.out⟩⟩
      ·obtain rfl := smI H
       try go_wp2
       replace HB := am (below_drew1 HB.out)
       have p368 : 0 ≤ (aa : Int) := of_decide_eq_true rfA
       have q368 : aa < (l0.length : Int) := of_decide_eq_true rfA
       obtain ⟨ad368, e368, ab, ac⟩ := at_T55 HR0.out aa p368 q368
       have hw368_1 := ac
       have hw368_0 := ab
       cases e368
       replace ab := (HB.out.cell (World.block_lt_of_cell? w _ ab)).trans ab
       replace ac := (HB.out.cell (World.block_lt_of_cell? w _ ac)).trans ac
       replace p368 := eq_true p368
       replace q368 := eq_true q368
       have p370 : 0 ≤ ((ji7) : Int) := of_decide_eq_true rfA
       have q370 : (ji7) < (l0.length : Int) := of_decide_eq_true rfA
       obtain ⟨ad370, e370, ad, ae⟩ := at_T55 HR0.out (ji7) p370 q370
       have hw370_1 := ae
       have hw370_0 := ad
       obtain rfl : ad368 = ad370 := (by injection e370)
       replace ad := (HB.out.cell (World.block_lt_of_cell? w _ ad)).trans ad
       replace ae := (HB.out.cell (World.block_lt_of_cell? w _ ae)).trans ae
       replace p370 := eq_true p370
       replace q370 := eq_true q370
       have p371 : 0 ≤ (aa : Int) := of_decide_eq_true rfA
       have q371 : aa < (l0.length : Int) := of_decide_eq_true rfA
       obtain ⟨ad371, e371, af, ag⟩ := at_T55 HR0.out aa p371 q371
       have hw371_1 := ag
       have hw371_0 := af
       obtain rfl : ad368 = ad371 := (by injection e371)
       replace af := (HB.out.cell (World.block_lt_of_cell? w _ af)).trans af
       replace ag := (HB.out.cell (World.block_lt_of_cell? w _ ag)).trans ag
       replace p371 := eq_true p371
       replace q371 := eq_true q371
       refine start_ (n := 23) (S := fun w' => w'.cell? (ad368.add ((aa).toNat * 2)) = some (.string ((rd_T55 l0 aa).f0)) ∧ w'.cell? ⟨(ad368.add ((aa).toNat * 2)).block, (ad368.add ((aa).toNat * 2)).off + 1, none⟩ = some (.string ((rd_T55 l0 aa).f1)) ∧ w'.cell? (ad368.add (((ji7)).toNat * 2)) = some (.string ((rd_T55 l0 (ji7)).f0)) ∧ w'.cell? ⟨(ad368.add (((ji7)).toNat * 2)).block, (ad368.add (((ji7)).toNat * 2)).off + 1, none⟩ = some (.string ((rd_T55 l0 (ji7)).f1)) ∧ w'.cell? (ad368.add ((aa).toNat * 2)) = some (.string ((rd_T55 l0 aa).f0)) ∧ w'.cell? ⟨(ad368.add ((aa).toNat * 2)).block, (ad368.add ((aa).toNat * 2)).off + 1, none⟩ = some (.string ((rd_T55 l0 aa).f1))) (ds := []) (bA 23 0) rfK rfl rfK ⟨((HB.out.cell (World.block_lt_of_cell? w _ hw368_0)).trans hw368_0), ((HB.out.cell (World.block_lt_of_cell? w _ hw368_1)).trans hw368_1), ((HB.out.cell (World.block_lt_of_cell? w _ hw370_0)).trans hw370_0), ((HB.out.cell (World.block_lt_of_cell? w _ hw370_1)).trans hw370_1), ((HB.out.cell (World.block_lt_of_cell? w _ hw371_0)).trans hw371_0), ((HB.out.cell (World.block_lt_of_cell? w _ hw371_1)).trans hw371_1)⟩ (fun hHeld => ?_); refine with_tabW graftwoodref05_Check.tab4 graftwoodref05_Check.bits4 (fun HT_ HW_ => ?_)
       generalize wr.drew = w15 at HB ab ac ad ae af ag hHeld ⊢
       refine pT 0 10 (bA 23 1) HT_.out ?_
       refine pT 1 11 (bA 23 3) HT_.out ?_
       refine pT 2 12 (bA 23 7) HT_.out ?_
       refine tT 3 13 (bA 23 15) HT_.out HW_.out hHeld ?_ (hy := by rintro w' ⟨s0, s1, s2, s3, s4, s5⟩; go_simp; with_reducible rfl)
       refine oT 4 (bA 23 31) HT_.out fun K hK => ?_
       refine gS Tryz.func61 #[.agg #[.string ((rd_T55 l0 aa).f0), .string ((rd_T55 l0 aa).f1)]] ?_
       with_reducible refine (graftwoodref05_May.calls k1 ((rd_T55 l0 aa).f0) ((rd_T55 l0 aa).f1) true _ A4.out).mono ?_
       rintro e w16 ⟨rfl, hb⟩
       refine ⟨_, rfl, ?_⟩
       replace HB := am (sTx HB.out hb)
       refine hK.out _ _ ⟨((HB.out.cell (World.block_lt_of_cell? w _ hw368_0)).trans hw368_0), ((HB.out.cell (World.block_lt_of_cell? w _ hw368_1)).trans hw368_1), ((HB.out.cell (World.block_lt_of_cell? w _ hw370_0)).trans hw370_0), ((HB.out.cell (World.block_lt_of_cell? w _ hw370_1)).trans hw370_1), ((HB.out.cell (World.block_lt_of_cell? w _ hw371_0)).trans hw371_0), ((HB.out.cell (World.block_lt_of_cell? w _ hw371_1)).trans hw371_1)⟩ (fun hHeld => ?_)
       clear hK K
       refine mN 14 ?_
       refine pT 5 15 (bA 23 63) HT_.out ?_
       refine pT 6 16 (bA 23 127) HT_.out ?_
       refine pT 7 17 (bA 23 255) HT_.out ?_
       refine pT 8 18 (bA 23 511) HT_.out ?_
       refine pT 9 19 (bA 23 1023) HT_.out ?_
       refine pT 10 20 (bA 23 2047) HT_.out ?_
       refine pT 11 21 (bA 23 4095) HT_.out ?_
       refine pT 12 22 (bA 23 8191) HT_.out ?_
       refine pT 13 23 (bA 23 16383) HT_.out ?_
       refine pT 15 25 (bA 23 49151) HT_.out ?_
       refine pT 16 26 (bA 23 114687) HT_.out ?_
       refine pT 17 27 (bA 23 245759) HT_.out ?_
       refine tT 14 24 (bA 23 262143) HT_.out HW_.out hHeld ?_ (hy := by rintro w' ⟨s0, s1, s2, s3, s4, s5⟩; go_simp; with_reducible rfl)
       refine tT 18 28 (bA 23 524287) HT_.out HW_.out hHeld ?_ (hy := by rintro w' ⟨s0, s1, s2, s3, s4, s5⟩; go_simp; with_reducible rfl)
       refine oT 19 (bA 23 1048575) HT_.out fun K hK => ?_
       refine goes_ Tryz.func62 rfK rfl #[.agg #[.string ((rd_T55 l0 (ji7)).f0), .string ((rd_T55 l0 (ji7)).f1)], .agg #[.string ((rd_T55 l0 aa).f0), .string ((rd_T55 l0 aa).f1)]] (by rfl) rfl rfl (by (try simp only [List.map_toArray, List.map_cons, List.map_nil]); first | done | (simp only [an]; rfl) | rfl | (simp only [List.length_drop, List.length_take]; rfl)) ?_
       with_reducible refine (graftwoodref05_Less.calls k1 ((rd_T55 l0 (ji7)).f0) ((rd_T55 l0 (ji7)).f1) ((rd_T55 l0 aa).f0) ((rd_T55 l0 aa).f1) false _ A10.out).mono ?_
       rintro e w17 ⟨rfl, hb⟩
       refine ⟨_, rfl, ?_⟩
       replace HB := am (sTx HB.out hb)
       refine hK.out _ _ ⟨((HB.out.cell (World.block_lt_of_cell? w _ hw368_0)).trans hw368_0), ((HB.out.cell (World.block_lt_of_cell? w _ hw368_1)).trans hw368_1), ((HB.out.cell (World.block_lt_of_cell? w _ hw370_0)).trans hw370_0), ((HB.out.cell (World.block_lt_of_cell? w _ hw370_1)).trans hw370_1), ((HB.out.cell (World.block_lt_of_cell? w _ hw371_0)).trans hw371_0), ((HB.out.cell (World.block_lt_of_cell? w _ hw371_1)).trans hw371_1)⟩ (fun hHeld => ?_)
       clear hK K
       refine mN 29 ?_
       refine pT 20 30 (bA 23 2097151) HT_.out ?_
       refine pT 21 31 (bA 23 4194303) HT_.out ?_
       refine pT 22 32 (bA 23 8388607) HT_.out ?_
       refine done_ (done_of HT_.out rfK) ?_
       try go_wp2
       go_ret
       exact ⟨by first | rfl | (simp [errW_none, errW_some] <;> rfl) | (simp only [← an]; first | rfl | (simp [errW_none, errW_some] <;> rfl)) | (simp [*, errW_none, errW_some] <;> rfl), eTx HB.out⟩
     ·have au : decide (0 < aa) = false := decide_eq_false c6
      clear c6
      have H' := Aside0.mk H
      clear H
      try go_wp2
      replace HB := am (below_drew1 HB.out)
      have p368 : 0 ≤ (aa : Int) := of_decide_eq_true rfA
      have q368 : aa < (l0.length : Int) := of_decide_eq_true rfA
      obtain ⟨ad368, e368, ab, ac⟩ := at_T55 HR0.out aa p368 q368
      have hw368_1 := ac
      have hw368_0 := ab
      cases e368
      replace ab := (HB.out.cell (World.block_lt_of_cell? w _ ab)).trans ab
      replace ac := (HB.out.cell (World.block_lt_of_cell? w _ ac)).trans ac
      replace p368 := eq_true p368
      replace q368 := eq_true q368
      refine start_ (n := 23) (S := fun w' => w'.cell? (ad368.add ((aa).toNat * 2)) = some (.string ((rd_T55 l0 aa).f0)) ∧ w'.cell? ⟨(ad368.add ((aa).toNat * 2)).block, (ad368.add ((aa).toNat * 2)).off + 1, none⟩ = some (.string ((rd_T55 l0 aa).f1))) (ds := []) (bA 23 0) rfK rfl rfK ⟨((HB.out.cell (World.block_lt_of_cell? w _ hw368_0)).trans hw368_0), ((HB.out.cell (World.block_lt_of_cell? w _ hw368_1)).trans hw368_1)⟩ (fun hHeld => ?_); refine with_tabW graftwoodref05_Check.tab4 graftwoodref05_Check.bits4 (fun HT_ HW_ => ?_)
      generalize wr.drew = w18 at HB ab ac hHeld ⊢
      refine pT 0 10 (bA 23 1) HT_.out ?_
      refine pT 1 11 (bA 23 3) HT_.out ?_
      refine pT 2 12 (bA 23 7) HT_.out ?_
      refine tT 3 13 (bA 23 15) HT_.out HW_.out hHeld ?_ (hy := by rintro w' ⟨s0, s1⟩; go_simp; with_reducible rfl)
      refine oT 4 (bA 23 31) HT_.out fun K hK => ?_
      refine gS Tryz.func61 #[.agg #[.string ((rd_T55 l0 aa).f0), .string ((rd_T55 l0 aa).f1)]] ?_
      with_reducible refine (graftwoodref05_May.calls k1 ((rd_T55 l0 aa).f0) ((rd_T55 l0 aa).f1) true _ A4.out).mono ?_
      rintro e w19 ⟨rfl, hb⟩
      refine ⟨_, rfl, ?_⟩
      replace HB := am (sTx HB.out hb)
      refine hK.out _ _ ⟨((HB.out.cell (World.block_lt_of_cell? w _ hw368_0)).trans hw368_0), ((HB.out.cell (World.block_lt_of_cell? w _ hw368_1)).trans hw368_1)⟩ (fun hHeld => ?_)
      clear hK K
      refine mN 14 ?_
      refine pT 5 15 (bA 23 63) HT_.out ?_
      refine pT 6 16 (bA 23 127) HT_.out ?_
      refine pT 7 17 (bA 23 255) HT_.out ?_
      refine pT 8 18 (bA 23 511) HT_.out ?_
      refine pT 9 19 (bA 23 1023) HT_.out ?_
      refine pU 10 20 (bA 23 2047) HT_.out ?_
      refine pU 11 21 (bA 23 4095) HT_.out ?_
      refine pU 12 22 (bA 23 8191) HT_.out ?_
      refine pU 13 23 (bA 23 16383) HT_.out ?_
      refine pU 14 24 (bA 23 32767) HT_.out ?_
      refine pU 15 25 (bA 23 65535) HT_.out ?_
      refine pU 16 26 (bA 23 131071) HT_.out ?_
      refine pU 17 27 (bA 23 262143) HT_.out ?_
      refine pU 18 28 (bA 23 524287) HT_.out ?_
      refine pU 19 29 (bA 23 1048575) HT_.out ?_
      refine pU 20 30 (bA 23 2097151) HT_.out ?_
      refine pT 21 31 (bA 23 4194303) HT_.out ?_
      refine pT 22 32 (bA 23 8388607) HT_.out ?_
      refine done_ (done_of HT_.out rfK) ?_
      try go_wp2
      go_roundg k1
      case measure => have := HK1.out; omega
      case rel => exact ⟨(wrap64 (aa + 1)), rfG, H', ⟨by have := HK1.out; omega⟩, ⟨eTx HB.out⟩⟩
    ·obtain rfl := smI H
     try go_wp2
     replace HB := am (below_drew1 HB.out)
     have p368 : 0 ≤ (aa : Int) := of_decide_eq_true rfA
     have q368 : aa < (l0.length : Int) := of_decide_eq_true rfA
     obtain ⟨ad368, e368, ab, ac⟩ := at_T55 HR0.out aa p368 q368
     have hw368_1 := ac
     have hw368_0 := ab
     cases e368
     replace ab := (HB.out.cell (World.block_lt_of_cell? w _ ab)).trans ab
     replace ac := (HB.out.cell (World.block_lt_of_cell? w _ ac)).trans ac
     replace p368 := eq_true p368
     replace q368 := eq_true q368
     refine start_ (n := 23) (S := fun w' => w'.cell? (ad368.add ((aa).toNat * 2)) = some (.string ((rd_T55 l0 aa).f0)) ∧ w'.cell? ⟨(ad368.add ((aa).toNat * 2)).block, (ad368.add ((aa).toNat * 2)).off + 1, none⟩ = some (.string ((rd_T55 l0 aa).f1))) (ds := []) (bA 23 0) rfK rfl rfK ⟨((HB.out.cell (World.block_lt_of_cell? w _ hw368_0)).trans hw368_0), ((HB.out.cell (World.block_lt_of_cell? w _ hw368_1)).trans hw368_1)⟩ (fun hHeld => ?_); refine with_tabW graftwoodref05_Check.tab4 graftwoodref05_Check.bits4 (fun HT_ HW_ => ?_)
     generalize wr.drew = w20 at HB ab ac hHeld ⊢
     refine pT 0 10 (bA 23 1) HT_.out ?_
     refine pT 1 11 (bA 23 3) HT_.out ?_
     refine pT 2 12 (bA 23 7) HT_.out ?_
     refine tT 3 13 (bA 23 15) HT_.out HW_.out hHeld ?_ (hy := by rintro w' ⟨s0, s1⟩; go_simp; with_reducible rfl)
     refine oT 4 (bA 23 31) HT_.out fun K hK => ?_
     refine gS Tryz.func61 #[.agg #[.string ((rd_T55 l0 aa).f0), .string ((rd_T55 l0 aa).f1)]] ?_
     with_reducible refine (graftwoodref05_May.calls k1 ((rd_T55 l0 aa).f0) ((rd_T55 l0 aa).f1) false _ A4.out).mono ?_
     rintro e w21 ⟨rfl, hb⟩
     refine ⟨_, rfl, ?_⟩
     replace HB := am (sTx HB.out hb)
     refine hK.out _ _ ⟨((HB.out.cell (World.block_lt_of_cell? w _ hw368_0)).trans hw368_0), ((HB.out.cell (World.block_lt_of_cell? w _ hw368_1)).trans hw368_1)⟩ (fun hHeld => ?_)
     clear hK K
     refine mN 14 ?_
     refine pT 5 15 (bA 23 63) HT_.out ?_
     refine pT 6 16 (bA 23 127) HT_.out ?_
     refine pU 7 17 (bA 23 255) HT_.out ?_
     refine pU 8 18 (bA 23 511) HT_.out ?_
     refine pU 9 19 (bA 23 1023) HT_.out ?_
     refine pU 10 20 (bA 23 2047) HT_.out ?_
     refine pU 11 21 (bA 23 4095) HT_.out ?_
     refine pU 12 22 (bA 23 8191) HT_.out ?_
     refine pU 13 23 (bA 23 16383) HT_.out ?_
     refine pU 14 24 (bA 23 32767) HT_.out ?_
     refine pU 15 25 (bA 23 65535) HT_.out ?_
     refine pU 16 26 (bA 23 131071) HT_.out ?_
     refine pU 17 27 (bA 23 262143) HT_.out ?_
     refine pU 18 28 (bA 23 524287) HT_.out ?_
     refine pU 19 29 (bA 23 1048575) HT_.out ?_
     refine pU 20 30 (bA 23 2097151) HT_.out ?_
     refine pU 21 31 (bA 23 4194303) HT_.out ?_
     refine pT 22 32 (bA 23 8388607) HT_.out ?_
     refine done_ (done_of HT_.out rfK) ?_
     try go_wp2
     go_ret
     exact ⟨rfF, eTx HB.out⟩
   ·have ar := decide_eq_false c2
    clear c2
    obtain rfl := smI H
    go_wp2
    go_ret
    exact ⟨rfF, eTx HB.out⟩

/-! ### graftwoodref17_May: function 13 -/
def graftwoodref17_May.l0 : Nat → List (S55) → Int → Option (Bool)
 | 0, _, _ => none
 | k + 1, x0, x3 => if x3 < (x0.length : Int) then (if 0 ≤ x3 then (if 0 ≤ (wrap64 (x3 - 1)) then (if (wrap64 (x3 - 1)) < (x0.length : Int) then (if ((rd_T55 x0 x3).f0).toList = ((rd_T55 x0 (wrap64 (x3 - 1))).f0).toList then (some false) else (graftwoodref17_May.l0 k x0 (wrap64 (x3 + 1)))) else (none)) else (none)) else (none)) else ((graftwoodref05_Check.f k x0).bind fun ao => (some ao))
def graftwoodref17_May.f (k : Nat) (l0 : List (S55)) : Option (Bool) := graftwoodref17_May.l0 k l0 1
theorem graftwoodref17_May.mono_l : ∀ k, (∀ y0 y1, LeO (graftwoodref17_May.l0 k y0 y1) (graftwoodref17_May.l0 (k + 1) y0 y1))
 | 0 => fun _ _ r h => by simp [graftwoodref17_May.l0] at h
 | k + 1 => by
  have ih0 := graftwoodref17_May.mono_l k
  ·intro y0 y1
   unfold graftwoodref17_May.l0
   repeat' first | (with_reducible first | apply ih0 | apply graftwoodref05_Check.mono | apply LeO.refl | apply LeO.none | apply LeO.ite | refine LeO.bind ?_ (fun _ => ?_)) | apply ih0 | apply graftwoodref05_Check.mono | exact LeO.none _ | refine LeO.ite ?_ ?_ | refine LeO.bind ?_ (fun _ => ?_)
theorem graftwoodref17_May.mono : ∀ a0 k, LeO (graftwoodref17_May.f k a0) (graftwoodref17_May.f (k + 1) a0) := by
 intro a0 k
 have ih0 := graftwoodref17_May.mono_l k
 unfold graftwoodref17_May.f
 repeat' first | (with_reducible first | apply ih0 | apply graftwoodref05_Check.mono | apply LeO.refl | apply LeO.none | apply LeO.ite | refine LeO.bind ?_ (fun _ => ?_)) | apply ih0 | apply graftwoodref05_Check.mono | exact LeO.none _ | refine LeO.ite ?_ ?_ | refine LeO.bind ?_ (fun _ => ?_)
theorem graftwoodref17_May.calls (k : Nat) (A0 : Option Addr) (c0 : Nat) (l0 : List (S55)) (r : Bool) (w : World) (hr0 : Kd.C k55 w A0 l0.length l0) (hc0 : l0.length ≤ c0) (h : graftwoodref17_May.f k l0 = some r) :
  Calls Tryz.prog 13 #[.slice A0 l0.length c0] w fun e w' => e = .returned (.bool r) ∧ Below w.heap.size w w' := by
 have HR0 := Aside0.mk hr0
 have HC0 := Aside0.mk hc0
 clear hr0 hc0
 have HB := am (Below.refl w.heap.size w)
 unfold graftwoodref17_May.f at h; have H := h; clear h
 have H' := Aside0.mk H
 clear H
 go_enter Tryz.func13, Tryz.ntmps13
 go_wp2
 repeat (go_quiet (fail); try go_wp2)
 go_loopg [3] k (fun kq v3 w' => ∃ (aa : Int), v3 = .int .i64 aa ∧ Aside0 (graftwoodref17_May.l0 kq l0 aa = some r) ∧ Aside0 (kq ≤ k) ∧ Aside0 (Below w.heap.size w w'))
 case atStart => exact ⟨(1), rfG, H', ⟨Nat.le_refl _⟩, ⟨eTx HB.out⟩⟩
 case round =>
  clear H'
  obtain ⟨aa, rfl, HA, HK1, HB⟩ := hrel
  cases gk with
  | zero => exact absurd HA.out (by simp [graftwoodref17_May.l0])
  | succ k1 =>
   have H := HA.out
   clear HA
   simp only [graftwoodref17_May.l0] at H
   replace H := ifP H; rcases H with ⟨c2, H⟩ | ⟨c2, H⟩
   ·have ar := decide_eq_true c2
    clear c2
    replace H := ifN H; obtain ⟨c3, H⟩ := H
    have aw := decide_eq_true c3
    clear c3
    obtain ⟨ji4, aq⟩ : ∃ j_ : Int, (wrap64 (aa - 1)) = j_ := ⟨_, rfl⟩
    replace H : (if 0 ≤ (ji4) then (if (ji4) < (l0.length : Int) then (if ((rd_T55 l0 aa).f0).toList = ((rd_T55 l0 (ji4)).f0).toList then (some false) else (graftwoodref17_May.l0 k1 l0 (wrap64 (aa + 1)))) else (none)) else (none)) = some r := by first | (rw [aq] at H; exact H) | (simp only [aq] at H ⊢; exact H)
    have aA : (IntKind.i64.wrap (aa - 1)) = ji4 := (i64_w _).trans aq
    replace H := ifN H; obtain ⟨c5, H⟩ := H
    have aD := decide_eq_true c5
    clear c5
    replace H := ifN H; obtain ⟨c6, H⟩ := H
    have au := decide_eq_true c6
    clear c6
    replace H := ifP H; rcases H with ⟨c7, H⟩ | ⟨c7, H⟩
    ·have ax := beq_iff_eq.mpr c7
     have ay := bne_eq_false_iff_eq.mpr c7
     clear c7
     obtain rfl := smI H
     have p373 : 0 ≤ (aa : Int) := of_decide_eq_true rfA
     have q373 : aa < (l0.length : Int) := of_decide_eq_true rfA
     obtain ⟨ad373, e373, ah, ai⟩ := at_T55 HR0.out aa p373 q373
     cases e373
     replace ah := (HB.out.cell (World.block_lt_of_cell? w _ ah)).trans ah
     replace ai := (HB.out.cell (World.block_lt_of_cell? w _ ai)).trans ai
     replace p373 := eq_true p373
     replace q373 := eq_true q373
     have p374 : 0 ≤ ((ji4) : Int) := of_decide_eq_true rfA
     have q374 : (ji4) < (l0.length : Int) := of_decide_eq_true rfA
     obtain ⟨ad374, e374, aj, ak⟩ := at_T55 HR0.out (ji4) p374 q374
     obtain rfl : ad373 = ad374 := (by injection e374)
     replace aj := (HB.out.cell (World.block_lt_of_cell? w _ aj)).trans aj
     replace ak := (HB.out.cell (World.block_lt_of_cell? w _ ak)).trans ak
     replace p374 := eq_true p374
     replace q374 := eq_true q374
     go_wp2
     repeat (go_quiet (fail); try go_wp2)
     go_ret
     exact ⟨by first | rfl | (simp [errW_none, errW_some] <;> rfl) | (simp only [← aq]; first | rfl | (simp [errW_none, errW_some] <;> rfl)) | (simp [*, errW_none, errW_some] <;> rfl), eTx HB.out⟩
    ·have ax := beq_eq_false_iff_ne.mpr c7
     have ay := bne_iff_ne.mpr c7
     have H' := Aside0.mk H
     clear H
     have p373 : 0 ≤ (aa : Int) := of_decide_eq_true rfA
     have q373 : aa < (l0.length : Int) := of_decide_eq_true rfA
     obtain ⟨ad373, e373, ah, ai⟩ := at_T55 HR0.out aa p373 q373
     cases e373
     replace ah := (HB.out.cell (World.block_lt_of_cell? w _ ah)).trans ah
     replace ai := (HB.out.cell (World.block_lt_of_cell? w _ ai)).trans ai
     replace p373 := eq_true p373
     replace q373 := eq_true q373
     have p374 : 0 ≤ ((ji4) : Int) := of_decide_eq_true rfA
     have q374 : (ji4) < (l0.length : Int) := of_decide_eq_true rfA
     obtain ⟨ad374, e374, aj, ak⟩ := at_T55 HR0.out (ji4) p374 q374
     obtain rfl : ad373 = ad374 := (by injection e374)
     replace aj := (HB.out.cell (World.block_lt_of_cell? w _ aj)).trans aj
     replace ak := (HB.out.cell (World.block_lt_of_cell? w _ ak)).trans ak
     replace p374 := eq_true p374
     replace q374 := eq_true q374
     go_wp2
     repeat (go_quiet (fail); try go_wp2)
     go_roundg k1
     case measure => have := HK1.out; omega
     case rel => exact ⟨(wrap64 (aa + 1)), rfG, H', ⟨by have := HK1.out; omega⟩, ⟨eTx HB.out⟩⟩
   ·have ar := decide_eq_false c2
    clear c2
    replace H := bnd H; obtain ⟨ao, A8, H⟩ := H
    obtain rfl := smI H
    go_wp2_with (first | (go_at_call 34; (with_reducible refine (graftwoodref05_Check.calls k1 _ _ l0 ao _ (cW (Kd.C_below HR0.out HB.out)) HC0.out A8.out).mono ?_); rintro e w9 ⟨rfl, hb⟩; replace HB := am (sTx HB.out hb)))
    repeat (go_quiet (first | (go_at_call 34; (with_reducible refine (graftwoodref05_Check.calls k1 _ _ l0 ao _ (cW (Kd.C_below HR0.out HB.out)) HC0.out A8.out).mono ?_); rintro e w9 ⟨rfl, hb⟩; replace HB := am (sTx HB.out hb))); try go_wp2_with (first | (go_at_call 34; (with_reducible refine (graftwoodref05_Check.calls k1 _ _ l0 ao _ (cW (Kd.C_below HR0.out HB.out)) HC0.out A8.out).mono ?_); rintro e w9 ⟨rfl, hb⟩; replace HB := am (sTx HB.out hb))))
    go_ret
    exact ⟨rfF, eTx HB.out⟩

end Go.Proofs.YtknmfmedklfepaaGreatDoor.P
