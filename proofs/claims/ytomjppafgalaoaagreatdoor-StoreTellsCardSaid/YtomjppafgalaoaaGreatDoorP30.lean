-- half the indentation
import Derived.Test.YtomjppafgalaoaaGreatDoorSqz
import Derived.Test.YtomjppafgalaoaaGreatDoorP0
import Derived.Test.YtomjppafgalaoaaGreatDoorP27
import Derived.Test.YtomjppafgalaoaaGreatDoorP29
namespace Go.Proofs.YtomjppafgalaoaaGreatDoor.P
open Go.RowKit Go.Proofs.YtomjppafgalaoaaGreatDoorW.PrintWords Go.Proofs.YtomjppafgalaoaaGreatDoorW.PrintLast Go.Proofs.YtomjppafgalaoaaGreatDoorW.PrintMore
attribute [local go_sem] max2_int min2_int max_two min_two max_three min_three max_four min_four
set_option linter.unusedVariables false
set_option linter.unusedSimpArgs false
set_option maxHeartbeats 8000000
set_option maxRecDepth 100000

/-! ### graftwoodref05_Check: function 28 -/
def graftwoodref05_Check.l0 : Nat → List (S27) → Int → Option (Bool)
 | 0, _, _ => none
 | k + 1, x0, x3 => if x3 < (x0.length : Int) then (if 0 ≤ x3 then ((graftwoodref05_May.f k ((rd_T27 x0 x3).f0) ((rd_T27 x0 x3).f1)).bind fun ar => (if ar = true then (if x3 > 0 then (if 0 ≤ (wrap64 (x3 - 1)) then (if (wrap64 (x3 - 1)) < (x0.length : Int) then ((graftwoodref05_Less.f k ((rd_T27 x0 (wrap64 (x3 - 1))).f0) ((rd_T27 x0 (wrap64 (x3 - 1))).f1) ((rd_T27 x0 x3).f0) ((rd_T27 x0 x3).f1)).bind fun aj => (if aj = true then (graftwoodref05_Check.l0 k x0 (wrap64 (x3 + 1))) else (some false))) else (none)) else (none)) else (graftwoodref05_Check.l0 k x0 (wrap64 (x3 + 1)))) else (some false))) else (none)) else (some true)
def graftwoodref05_Check.f (k : Nat) (l0 : List (S27)) : Option (Bool) := graftwoodref05_Check.l0 k l0 0
theorem graftwoodref05_Check.mono_l : ∀ k, (∀ y0 y1, LeO (graftwoodref05_Check.l0 k y0 y1) (graftwoodref05_Check.l0 (k + 1) y0 y1))
 | 0 => fun _ _ r h => by simp [graftwoodref05_Check.l0] at h
 | k + 1 => by
  have ih0 := graftwoodref05_Check.mono_l k
  ·intro y0 y1
   unfold graftwoodref05_Check.l0
   repeat' first | (with_reducible first | apply ih0 | apply graftwoodref05_Less.mono | apply graftwoodref05_May.mono | apply LeO.refl | apply LeO.none | apply LeO.ite | refine LeO.bind ?_ (fun _ => ?_)) | apply ih0 | apply graftwoodref05_Less.mono | apply graftwoodref05_May.mono | exact LeO.none _ | refine LeO.ite ?_ ?_ | refine LeO.bind ?_ (fun _ => ?_)
theorem graftwoodref05_Check.mono : ∀ a0 k, LeO (graftwoodref05_Check.f k a0) (graftwoodref05_Check.f (k + 1) a0) := by
 intro a0 k
 have ih0 := graftwoodref05_Check.mono_l k
 unfold graftwoodref05_Check.f
 repeat' first | (with_reducible first | apply ih0 | apply graftwoodref05_Less.mono | apply graftwoodref05_May.mono | apply LeO.refl | apply LeO.none | apply LeO.ite | refine LeO.bind ?_ (fun _ => ?_)) | apply ih0 | apply graftwoodref05_Less.mono | apply graftwoodref05_May.mono | exact LeO.none _ | refine LeO.ite ?_ ?_ | refine LeO.bind ?_ (fun _ => ?_)
def graftwoodref05_Check.T4 : Bool × List (List Nat × List Nat) := (true, [([], []), ([], []), ([0, 1], [0, 1]), ([2], [2]), ([3], [3]), ([4], [4]), ([5, 4], [5]), ([6], [6]), ([7, 6], [6, 7]), ([8, 6, 6], [6, 8]), ([9], [9]), ([9], [9]), ([11, 9], [9, 11]), ([10, 12, 9], [9, 10, 12]), ([13, 9], [9, 13]), ([9], [9]), ([9], [9]), ([15, 16, 9], [9, 15, 16]), ([17, 9], [9, 17]), ([14, 18, 9, 9], [9, 14, 18]), ([19, 9], [9, 19]), ([9, 20, 6], [6, 9, 20]), ([6, 21], [6, 21])])
def graftwoodref05_Check.B4 : List Nat := [0, 0, 3, 7, 15, 31, 63, 127, 255, 511, 1023, 1023, 3071, 8191, 16383, 1023, 1023, 99327, 230399, 524287, 1048575, 2097151, 4194303]
theorem graftwoodref05_Check.tab4 : rtab .any (opsOf Tryz.f28 4) = graftwoodref05_Check.T4 := by kernel_rfl
theorem graftwoodref05_Check.bits4 : waitsOk graftwoodref05_Check.T4.2 graftwoodref05_Check.B4 = true := by kernel_rfl
theorem graftwoodref05_Check.calls (k : Nat) (A0 : Option Addr) (c0 : Nat) (l0 : List (S27)) (r : Bool) (w : World) (hr0 : Kd.C k27 w A0 l0.length l0) (hc0 : l0.length ≤ c0) (h : graftwoodref05_Check.f k l0 = some r) :
  Calls Tryz.prog 28 #[.slice A0 l0.length c0] w fun e w' => e = .returned (.bool r) ∧ Below w.heap.size w w' := by
 have hu27 := Tryz.underlying27
 have HR0 := Aside0.mk hr0
 have HC0 := Aside0.mk hc0
 clear hr0 hc0
 have HB := am (Below.refl w.heap.size w)
 unfold graftwoodref05_Check.f at h; have H := h; clear h
 have H' := Aside0.mk H
 clear H
 go_enter Tryz.func28, Tryz.ntmps28
 go_wp2
 go_loopg [3] k (fun kq v3 w' => ∃ (aa : Int), v3 = .int .i64 aa ∧ Aside0 (graftwoodref05_Check.l0 kq l0 aa = some r) ∧ Aside0 (kq ≤ k) ∧ Aside0 (Below w.heap.size w w'))
 case atStart => exact ⟨(0), rfG, H', ⟨Nat.le_refl _⟩, ⟨eTx HB.out⟩⟩
 case round =>
  clear H'
  obtain ⟨aa, rfl, HA, HK1, HB⟩ := hrel
  cases gk with
  | zero => exact absurd HA.out (by simp [graftwoodref05_Check.l0])
  | succ k1 =>
   have H := HA.out
   clear HA
   simp only [graftwoodref05_Check.l0] at H
   replace H := ifP H; rcases H with ⟨c2, H⟩ | ⟨c2, H⟩
   ·have az := decide_eq_true c2
    clear c2
    replace H := ifN H; obtain ⟨c3, H⟩ := H
    have aQ := decide_eq_true c3
    clear c3
    replace H := bnd H; obtain ⟨ar, A4, H⟩ := H
    replace H := ifB H; rcases H with ⟨rfl, H⟩ | ⟨rfl, H⟩
    ·replace H := ifP H; rcases H with ⟨c6, H⟩ | ⟨c6, H⟩
     ·have aA : decide (0 < aa) = true := decide_eq_true c6
      clear c6
      obtain ⟨ji7, an⟩ : ∃ j_ : Int, (wrap64 (aa - 1)) = j_ := ⟨_, rfl⟩
      replace H : (if 0 ≤ (ji7) then (if (ji7) < (l0.length : Int) then ((graftwoodref05_Less.f k1 ((rd_T27 l0 (ji7)).f0) ((rd_T27 l0 (ji7)).f1) ((rd_T27 l0 aa).f0) ((rd_T27 l0 aa).f1)).bind fun aj => (if aj = true then (graftwoodref05_Check.l0 k1 l0 (wrap64 (aa + 1))) else (some false))) else (none)) else (none)) = some r := by first | (rw [an] at H; exact H) | (simp only [an] at H ⊢; exact H)
      (try rw [an] at A4)
      have aN : (IntKind.i64.wrap (aa - 1)) = ji7 := (i64_w _).trans an
      replace H := ifN H; obtain ⟨c8, H⟩ := H
      have aR := decide_eq_true c8
      clear c8
      replace H := ifN H; obtain ⟨c9, H⟩ := H
      have aU := decide_eq_true c9
      clear c9
      replace H := bnd H; obtain ⟨aj, A10, H⟩ := H
      replace H := ifB H; rcases H with ⟨rfl, H⟩ | ⟨rfl, H⟩
      ·have H' := Aside0.mk H
       clear H
       try go_wp2
       replace HB := am (below_drew1 HB.out)
       have p392 : 0 ≤ (aa : Int) := of_decide_eq_true rfA
       have q392 : aa < (l0.length : Int) := of_decide_eq_true rfA
       obtain ⟨ad392, e392, ab, ac⟩ := at_T27 HR0.out aa p392 q392
       have hw392_1 := ac
       have hw392_0 := ab
       cases e392
       replace ab := (HB.out.cell (World.block_lt_of_cell? w _ ab)).trans ab
       replace ac := (HB.out.cell (World.block_lt_of_cell? w _ ac)).trans ac
       replace p392 := eq_true p392
       replace q392 := eq_true q392
       have p394 : 0 ≤ ((ji7) : Int) := of_decide_eq_true rfA
       have q394 : (ji7) < (l0.length : Int) := of_decide_eq_true rfA
       obtain ⟨ad394, e394, ad, ae⟩ := at_T27 HR0.out (ji7) p394 q394
       have hw394_1 := ae
       have hw394_0 := ad
       obtain rfl : ad392 = ad394 := (by injection e394)
       replace ad := (HB.out.cell (World.block_lt_of_cell? w _ ad)).trans ad
       replace ae := (HB.out.cell (World.block_lt_of_cell? w _ ae)).trans ae
       replace p394 := eq_true p394
       replace q394 := eq_true q394
       have p395 : 0 ≤ (aa : Int) := of_decide_eq_true rfA
       have q395 : aa < (l0.length : Int) := of_decide_eq_true rfA
       obtain ⟨ad395, e395, af, ag⟩ := at_T27 HR0.out aa p395 q395
       have hw395_1 := ag
       have hw395_0 := af
       obtain rfl : ad392 = ad395 := (by injection e395)
       replace af := (HB.out.cell (World.block_lt_of_cell? w _ af)).trans af
       replace ag := (HB.out.cell (World.block_lt_of_cell? w _ ag)).trans ag
       replace p395 := eq_true p395
       replace q395 := eq_true q395
       refine start_ (n := 23) (S := fun w' => w'.cell? (ad392.add ((aa).toNat * 2)) = some (.string ((rd_T27 l0 aa).f0)) ∧ w'.cell? ⟨(ad392.add ((aa).toNat * 2)).block, (ad392.add ((aa).toNat * 2)).off + 1, none⟩ = some (.string ((rd_T27 l0 aa).f1)) ∧ w'.cell? (ad392.add (((ji7)).toNat * 2)) = some (.string ((rd_T27 l0 (ji7)).f0)) ∧ w'.cell? ⟨(ad392.add (((ji7)).toNat * 2)).block, (ad392.add (((ji7)).toNat * 2)).off + 1, none⟩ = some (.string ((rd_T27 l0 (ji7)).f1)) ∧ w'.cell? (ad392.add ((aa).toNat * 2)) = some (.string ((rd_T27 l0 aa).f0)) ∧ w'.cell? ⟨(ad392.add ((aa).toNat * 2)).block, (ad392.add ((aa).toNat * 2)).off + 1, none⟩ = some (.string ((rd_T27 l0 aa).f1))) (ds := []) (bA 23 0) rfK rfl rfK ⟨((HB.out.cell (World.block_lt_of_cell? w _ hw392_0)).trans hw392_0), ((HB.out.cell (World.block_lt_of_cell? w _ hw392_1)).trans hw392_1), ((HB.out.cell (World.block_lt_of_cell? w _ hw394_0)).trans hw394_0), ((HB.out.cell (World.block_lt_of_cell? w _ hw394_1)).trans hw394_1), ((HB.out.cell (World.block_lt_of_cell? w _ hw395_0)).trans hw395_0), ((HB.out.cell (World.block_lt_of_cell? w _ hw395_1)).trans hw395_1)⟩ (fun hHeld => ?_); refine with_tabW graftwoodref05_Check.tab4 graftwoodref05_Check.bits4 (fun HT_ HW_ => ?_)
       generalize wr.drew = w12 at HB ab ac ad ae af ag hHeld ⊢
       refine pT 0 10 (bA 23 1) HT_.out ?_
       refine pT 1 11 (bA 23 3) HT_.out ?_
       refine pT 2 12 (bA 23 7) HT_.out ?_
       refine tT 3 13 (bA 23 15) HT_.out HW_.out hHeld ?_ (hy := by rintro w' ⟨s0, s1, s2, s3, s4, s5⟩; go_simp; with_reducible rfl)
       refine oT 4 (bA 23 31) HT_.out fun K hK => ?_
       refine gS Tryz.func13 #[.agg #[.string ((rd_T27 l0 aa).f0), .string ((rd_T27 l0 aa).f1)]] ?_
       with_reducible refine (graftwoodref05_May.calls k1 ((rd_T27 l0 aa).f0) ((rd_T27 l0 aa).f1) true _ A4.out).mono ?_
       rintro e w13 ⟨rfl, hb⟩
       refine ⟨_, rfl, ?_⟩
       replace HB := am (sTx HB.out hb)
       refine hK.out _ _ ⟨((HB.out.cell (World.block_lt_of_cell? w _ hw392_0)).trans hw392_0), ((HB.out.cell (World.block_lt_of_cell? w _ hw392_1)).trans hw392_1), ((HB.out.cell (World.block_lt_of_cell? w _ hw394_0)).trans hw394_0), ((HB.out.cell (World.block_lt_of_cell? w _ hw394_1)).trans hw394_1), ((HB.out.cell (World.block_lt_of_cell? w _ hw395_0)).trans hw395_0), ((HB.out.cell (World.block_lt_of_cell? w _ hw395_1)).trans hw395_1)⟩ (fun hHeld => ?_)
       clear hK K
       refine mN 14 ?_
       refine pT 5 15 (bA 23 63) HT_.out ?_
       refine pT 6 16 (bA 23 127) HT_.out ?_
       refine pT 7 17 (bA 23 255) HT_.out ?_
       refine pT 8 18 (bA 23 511) HT_.out ?_
       refine pT 9 19 (bA 23 1023) HT_.out ?_
       refine pT 10 20 (bA 23 2047) HT_.out ?_
       refine pT 11 21 (bA 23 4095) HT_.out ?_
       refine pT 12 22 (bA 23 8191) HT_.out ?_
       refine pT 13 23 (bA 23 16383) HT_.out ?_
       refine pT 15 25 (bA 23 49151) HT_.out ?_
       refine pT 16 26 (bA 23 114687) HT_.out ?_
       refine pT 17 27 (bA 23 245759) HT_.out ?_
       refine tT 14 24 (bA 23 262143) HT_.out HW_.out hHeld ?_ (hy := by rintro w' ⟨s0, s1, s2, s3, s4, s5⟩; go_simp; with_reducible rfl)
       refine tT 18 28 (bA 23 524287) HT_.out HW_.out hHeld ?_ (hy := by rintro w' ⟨s0, s1, s2, s3, s4, s5⟩; go_simp; with_reducible rfl)
       refine oT 19 (bA 23 1048575) HT_.out fun K hK => ?_
       refine goes_ Tryz.func35 rfK rfl #[.agg #[.string ((rd_T27 l0 (ji7)).f0), .string ((rd_T27 l0 (ji7)).f1)], .agg #[.string ((rd_T27 l0 aa).f0), .string ((rd_T27 l0 aa).f1)]] (by rfl) rfl rfl (by (try simp only [List.map_toArray, List.map_cons, List.map_nil]); first | done | (simp only [an]; rfl) | rfl | (simp only [List.length_drop, List.length_take]; rfl)) ?_
       with_reducible refine (graftwoodref05_Less.calls k1 ((rd_T27 l0 (ji7)).f0) ((rd_T27 l0 (ji7)).f1) ((rd_T27 l0 aa).f0) ((rd_T27 l0 aa).f1) true _ A10.out).mono ?_
       rintro e w14 ⟨rfl, hb⟩
       refine ⟨_, rfl, ?_⟩
       replace HB := am (sTx HB.out hb)
       refine hK.out _ _ ⟨((HB.out.cell (World.block_lt_of_cell? w _ hw392_0)).trans hw392_0), ((HB.out.cell (World.block_lt_of_cell? w _ hw392_1)).trans hw392_1), ((HB.out.cell (World.block_lt_of_cell? w _ hw394_0)).trans hw394_0), ((HB.out.cell (World.block_lt_of_cell? w _ hw394_1)).trans hw394_1), ((HB.out.cell (World.block_lt_of_cell? w _ hw395_0)).trans hw395_0), ((HB.out.cell (World.block_lt_of_cell? w _ hw395_1)).trans hw395_1)⟩ (fun hHeld => ?_)
       clear hK K
       refine mN 29 ?_
       refine pT 20 30 (bA 23 2097151) HT_.out ?_
       refine pT 21 31 (bA 23 4194303) HT_.out ?_
       refine pT 22 32 (bA 23 8388607) HT_.out ?_
       refine done_ (done_of HT_.out rfK) ?_
       try go_wp2
       go_roundg k1
       case measure => have := HK1.out; omega
       case rel => exact ⟨(wrap64 (aa + 1)), rfG, H', ⟨by have := HK1.out; omega⟩, ⟨eTx HB.out⟩⟩
      ·obtain rfl := smI H
       try go_wp2
       replace HB := am (below_drew1 HB.out)
       have p392 : 0 ≤ (aa : Int) := of_decide_eq_true rfA
       have q392 : aa < (l0.length : Int) := of_decide_eq_true rfA
       obtain ⟨ad392, e392, ab, ac⟩ := at_T27 HR0.out aa p392 q392
       have hw392_1 := ac
       have hw392_0 := ab
       cases e392
       replace ab := (HB.out.cell (World.block_lt_of_cell? w _ ab)).trans ab
       replace ac := (HB.out.cell (World.block_lt_of_cell? w _ ac)).trans ac
       replace p392 := eq_true p392
       replace q392 := eq_true q392
       have p394 : 0 ≤ ((ji7) : Int) := of_decide_eq_true rfA
       have q394 : (ji7) < (l0.length : Int) := of_decide_eq_true rfA
       obtain ⟨ad394, e394, ad, ae⟩ := at_T27 HR0.out (ji7) p394 q394
       have hw394_1 := ae
       have hw394_0 := ad
       obtain rfl : ad392 = ad394 := (by injection e394)
       replace ad := (HB.out.cell (World.block_lt_of_cell? w _ ad)).trans ad
       replace ae := (HB.out.cell (World.block_lt_of_cell? w _ ae)).trans ae
       replace p394 := eq_true p394
       replace q394 := eq_true q394
       have p395 : 0 ≤ (aa : Int) := of_decide_eq_true rfA
       have q395 : aa < (l0.length : Int) := of_decide_eq_true rfA
       obtain ⟨ad395, e395, af, ag⟩ := at_T27 HR0.out aa p395 q395
       have hw395_1 := ag
       have hw395_0 := af
       obtain rfl : ad392 = ad395 := (by injection e395)
       replace af := (HB.out.cell (World.block_lt_of_cell? w _ af)).trans af
       replace ag := (HB.out.cell (World.block_lt_of_cell? w _ ag)).trans ag
       replace p395 := eq_true p395
       replace q395 := eq_true q395
       refine start_ (n := 23) (S := fun w' => w'.cell? (ad392.add ((aa).toNat * 2)) = some (.string ((rd_T27 l0 aa).f0)) ∧ w'.cell? ⟨(ad392.add ((aa).toNat * 2)).block, (ad392.add ((aa).toNat * 2)).off + 1, none⟩ = some (.string ((rd_T27 l0 aa).f1)) ∧ w'.cell? (ad392.add (((ji7)).toNat * 2)) = some (.string ((rd_T27 l0 (ji7)).f0)) ∧ w'.cell? ⟨(ad392.add (((ji7)).toNat * 2)).block, (ad392.add (((ji7)).toNat * 2)).off + 1, none⟩ = some (.string ((rd_T27 l0 (ji7)).f1)) ∧ w'.cell? (ad392.add ((aa).toNat * 2)) = some (.string ((rd_T27 l0 aa).f0)) ∧ w'.cell? ⟨(ad392.add ((aa).toNat * 2)).block, (ad392.add ((aa).toNat * 2)).off + 1, none⟩ = some (.string ((rd_T27 l0 aa).f1))) (ds := []) (bA 23 0) rfK rfl rfK ⟨((HB.out.cell (World.block_lt_of_cell? w _ hw392_0)).trans hw392_0), ((HB.out.cell (World.block_lt_of_cell? w _ hw392_1)).trans hw392_1), ((HB.out.cell (World.block_lt_of_cell? w _ hw394_0)).trans hw394_0), ((HB.out.cell (World.block_lt_of_cell? w _ hw394_1)).trans hw394_1), ((HB.out.cell (World.block_lt_of_cell? w _ hw395_0)).trans hw395_0), ((HB.out.cell (World.block_lt_of_cell? w _ hw395_1)).trans hw395_1)⟩ (fun hHeld => ?_); refine with_tabW graftwoodref05_Check.tab4 graftwoodref05_Check.bits4 (fun HT_ HW_ => ?_)
       generalize wr.drew = w15 at HB ab ac ad ae af ag hHeld ⊢
       refine pT 0 10 (bA 23 1) HT_.out ?_
       refine pT 1 11 (bA 23 3) HT_.out ?_
       refine pT 2 12 (bA 23 7) HT_.out ?_
       refine tT 3 13 (bA 23 15) HT_.out HW_.out hHeld ?_ (hy := by rintro w' ⟨s0, s1, s2, s3, s4, s5⟩; go_simp; with_reducible rfl)
       refine oT 4 (bA 23 31) HT_.out fun K hK => ?_
       refine gS Tryz.func13 #[.agg #[.string ((rd_T27 l0 aa).f0), .string ((rd_T27 l0 aa).f1)]] ?_
       with_reducible refine (graftwoodref05_May.calls k1 ((rd_T27 l0 aa).f0) ((rd_T27 l0 aa).f1) true _ A4.out).mono ?_
       rintro e w16 ⟨rfl, hb⟩
       refine ⟨_, rfl, ?_⟩
       replace HB := am (sTx HB.out hb)
       refine hK.out _ _ ⟨((HB.out.cell (World.block_lt_of_cell? w _ hw392_0)).trans hw392_0), ((HB.out.cell (World.block_lt_of_cell? w _ hw392_1)).trans hw392_1), ((HB.out.cell (World.block_lt_of_cell? w _ hw394_0)).trans hw394_0), ((HB.out.cell (World.block_lt_of_cell? w _ hw394_1)).trans hw394_1), ((HB.out.cell (World.block_lt_of_cell? w _ hw395_0)).trans hw395_0), ((HB.out.cell (World.block_lt_of_cell? w _ hw395_1)).trans hw395_1)⟩ (fun hHeld => ?_)
       clear hK K
       refine mN 14 ?_
       refine pT 5 15 (bA 23 63) HT_.out ?_
       refine pT 6 16 (bA 23 127) HT_.out ?_
       refine pT 7 17 (bA 23 255) HT_.out ?_
       refine pT 8 18 (bA 23 511) HT_.out ?_
       refine pT 9 19 (bA 23 1023) HT_.out ?_
       refine pT 10 20 (bA 23 2047) HT_.out ?_
       refine pT 11 21 (bA 23 4095) HT_.out ?_
       refine pT 12 22 (bA 23 8191) HT_.out ?_
       refine pT 13 23 (bA 23 16383) HT_.out ?_
       refine pT 15 25 (bA 23 49151) HT_.out ?_
       refine pT 16 26 (bA 23 114687) HT_.out ?_
       refine pT 17 27 (bA 23 245759) HT_.out ?_
       refine tT 14 24 (bA 23 262143) HT_.out HW_.out hHeld ?_ (hy := by rintro w' ⟨s0, s1, s2, s3, s4, s5⟩; go_simp; with_reducible rfl)
       refine tT 18 28 (bA 23 524287) HT_.out HW_.out hHeld ?_ (hy := by rintro w' ⟨s0, s1, s2, s3, s4, s5⟩; go_simp; with_reducible rfl)
       refine oT 19 (bA 23 1048575) HT_.out fun K hK => ?_
       refine goes_ Tryz.func35 rfK rfl #[.agg #[.string ((rd_T27 l0 (ji7)).f0), .string ((rd_T27 l0 (ji7)).f1)], .agg #[.string ((rd_T27 l0 aa).f0), .string ((rd_T27 l0 aa).f1)]] (by rfl) rfl rfl (by (try simp only [List.map_toArray, List.map_cons, List.map_nil]); first | done | (simp only [an]; rfl) | rfl | (simp only [List.length_drop, List.length_take]; rfl)) ?_
       with_reducible refine (graftwoodref05_Less.calls k1 ((rd_T27 l0 (ji7)).f0) ((rd_T27 l0 (ji7)).f1) ((rd_T27 l0 aa).f0) ((rd_T27 l0 aa).f1) false _ A10.out).mono ?_
       rintro e w17 ⟨rfl, hb⟩
       refine ⟨_, rfl, ?_⟩
       replace HB := am (sTx HB.out hb)
       refine hK.out _ _ ⟨((HB.out.cell (World.block_lt_of_cell? w _ hw392_0)).trans hw392_0), ((HB.out.cell (World.block_lt_of_cell? w _ hw392_1)).trans hw392_1), ((HB.out.cell (World.block_lt_of_cell? w _ hw394_0)).trans hw394_0), ((HB.out.cell (World.block_lt_of_cell? w _ hw394_1)).trans hw394_1), ((HB.out.cell (World.block_lt_of_cell? w _ hw395_0)).trans hw395_0), ((HB.out.cell (World.block_lt_of_cell? w _ hw395_1)).trans hw395_1)⟩ (fun hHeld => ?_)
       clear hK K
       refine mN 29 ?_
       refine pT 20 30 (bA 23 2097151) HT_.out ?_
       refine pT 21 31 (bA 23 4194303) HT_.out ?_
       refine pT 22 32 (bA 23 8388607) HT_.out ?_
       refine done_ (done_of HT_.out rfK) ?_
       try go_wp2
       go_ret
       exact ⟨by first | rfl | (simp [errW_none, errW_some] <;> rfl) | (simp only [← an]; first | rfl | (simp [errW_none, errW_some] <;> rfl)) | (simp [*, errW_none, errW_some] <;> rfl), eTx HB.out⟩
     ·have aA : decide (0 < aa) = false := decide_eq_false c6
      clear c6
      have H' := Aside0.mk H
      clear H
      try go_wp2
      replace HB := am (below_drew1 HB.out)
      have p392 : 0 ≤ (aa : Int) := of_decide_eq_true rfA
      have q392 : aa < (l0.length : Int) := of_decide_eq_true rfA
      obtain ⟨ad392, e392, ab, ac⟩ := at_T27 HR0.out aa p392 q392
      have hw392_1 := ac
      have hw392_0 := ab
      cases e392
      replace ab := (HB.out.cell (World.block_lt_of_cell? w _ ab)).trans ab
      replace ac := (HB.out.cell (World.block_lt_of_cell? w _ ac)).trans ac
      replace p392 := eq_true p392
      replace q392 := eq_true q392
      refine start_ (n := 23) (S := fun w' => w'.cell? (ad392.add ((aa).toNat * 2)) = some (.string ((rd_T27 l0 aa).f0)) ∧ w'.cell? ⟨(ad392.add ((aa).toNat * 2)).block, (ad392.add ((aa).toNat * 2)).off + 1, none⟩ = some (.string ((rd_T27 l0 aa).f1))) (ds := []) (bA 23 0) rfK rfl rfK ⟨((HB.out.cell (World.block_lt_of_cell? w _ hw392_0)).trans hw392_0), ((HB.out.cell (World.block_lt_of_cell? w _ hw392_1)).trans hw392_1)⟩ (fun hHeld => ?_); refine with_tabW graftwoodref05_Check.tab4 graftwoodref05_Check.bits4 (fun HT_ HW_ => ?_)
      generalize wr.drew = w18 at HB ab ac hHeld ⊢
      refine pT 0 10 (bA 23 1) HT_.out ?_
      refine pT 1 11 (bA 23 3) HT_.out ?_
      refine pT 2 12 (bA 23 7) HT_.out ?_
      refine tT 3 13 (bA 23 15) HT_.out HW_.out hHeld ?_ (hy := by rintro w' ⟨s0, s1⟩; go_simp; with_reducible rfl)
      refine oT 4 (bA 23 31) HT_.out fun K hK => ?_
      refine gS Tryz.func13 #[.agg #[.string ((rd_T27 l0 aa).f0), .string ((rd_T27 l0 aa).f1)]] ?_
      with_reducible refine (graftwoodref05_May.calls k1 ((rd_T27 l0 aa).f0) ((rd_T27 l0 aa).f1) true _ A4.out).mono ?_
      rintro e w19 ⟨rfl, hb⟩
      refine ⟨_, rfl, ?_⟩
      replace HB := am (sTx HB.out hb)
      refine hK.out _ _ ⟨((HB.out.cell (World.block_lt_of_cell? w _ hw392_0)).trans hw392_0), ((HB.out.cell (World.block_lt_of_cell? w _ hw392_1)).trans hw392_1)⟩ (fun hHeld => ?_)
      clear hK K
      refine mN 14 ?_
      refine pT 5 15 (bA 23 63) HT_.out ?_
      refine pT 6 16 (bA 23 127) HT_.out ?_
      refine pT 7 17 (bA 23 255) HT_.out ?_
      refine pT 8 18 (bA 23 511) HT_.out ?_
      refine pT 9 19 (bA 23 1023) HT_.out ?_
      refine pU 10 20 (bA 23 2047) HT_.out ?_
      refine pU 11 21 (bA 23 4095) HT_.out ?_
      refine pU 12 22 (bA 23 8191) HT_.out ?_
      refine pU 13 23 (bA 23 16383) HT_.out ?_
      refine pU 14 24 (bA 23 32767) HT_.out ?_
      refine pU 15 25 (bA 23 65535) HT_.out ?_
      refine pU 16 26 (bA 23 131071) HT_.out ?_
      refine pU 17 27 (bA 23 262143) HT_.out ?_
      refine pU 18 28 (bA 23 524287) HT_.out ?_
      refine pU 19 29 (bA 23 1048575) HT_.out ?_
      refine pU 20 30 (bA 23 2097151) HT_.out ?_
      refine pT 21 31 (bA 23 4194303) HT_.out ?_
      refine pT 22 32 (bA 23 8388607) HT_.out ?_
      refine done_ (done_of HT_.out rfK) ?_
      try go_wp2
      go_roundg k1
      case measure => have := HK1.out; omega
      case rel => exact ⟨(wrap64 (aa + 1)), rfG, H', ⟨by have := HK1.out; omega⟩, ⟨eTx HB.out⟩⟩
    ·obtain rfl := smI H
     try go_wp2
     replace HB := am (below_drew1 HB.out)
     have p392 : 0 ≤ (aa : Int) := of_decide_eq_true rfA
     have q392 : aa < (l0.length : Int) := of_decide_eq_true rfA
     obtain ⟨ad392, e392, ab, ac⟩ := at_T27 HR0.out aa p392 q392
     have hw392_1 := ac
     have hw392_0 := ab
     cases e392
     replace ab := (HB.out.cell (World.block_lt_of_cell? w _ ab)).trans ab
     replace ac := (HB.out.cell (World.block_lt_of_cell? w _ ac)).trans ac
     replace p392 := eq_true p392
     replace q392 := eq_true q392
     refine start_ (n := 23) (S := fun w' => w'.cell? (ad392.add ((aa).toNat * 2)) = some (.string ((rd_T27 l0 aa).f0)) ∧ w'.cell? ⟨(ad392.add ((aa).toNat * 2)).block, (ad392.add ((aa).toNat * 2)).off + 1, none⟩ = some (.string ((rd_T27 l0 aa).f1))) (ds := []) (bA 23 0) rfK rfl rfK ⟨((HB.out.cell (World.block_lt_of_cell? w _ hw392_0)).trans hw392_0), ((HB.out.cell (World.block_lt_of_cell? w _ hw392_1)).trans hw392_1)⟩ (fun hHeld => ?_); refine with_tabW graftwoodref05_Check.tab4 graftwoodref05_Check.bits4 (fun HT_ HW_ => ?_)
     generalize wr.drew = w20 at HB ab ac hHeld ⊢
     refine pT 0 10 (bA 23 1) HT_.out ?_
     refine pT 1 11 (bA 23 3) HT_.out ?_
     refine pT 2 12 (bA 23 7) HT_.out ?_
     refine tT 3 13 (bA 23 15) HT_.out HW_.out hHeld ?_ (hy := by rintro w' ⟨s0, s1⟩; go_simp; with_reducible rfl)
     refine oT 4 (bA 23 31) HT_.out fun K hK => ?_
     refine gS Tryz.func13 #[.agg #[.string ((rd_T27 l0 aa).f0), .string ((rd_T27 l0 aa).f1)]] ?_
     with_reducible refine (graftwoodref05_May.calls k1 ((rd_T27 l0 aa).f0) ((rd_T27 l0 aa).f1) false _ A4.out).mono ?_
     rintro e w21 ⟨rfl, hb⟩
     refine ⟨_, rfl, ?_⟩
     replace HB := am (sTx HB.out hb)
     refine hK.out _ _ ⟨((HB.out.cell (World.block_lt_of_cell? w _ hw392_0)).trans hw392_0), ((HB.out.cell (World.block_lt_of_cell? w _ hw392_1)).trans hw392_1)⟩ (fun hHeld => ?_)
     clear hK K
     refine mN 14 ?_
     refine pT 5 15 (bA 23 63) HT_.out ?_
     refine pT 6 16 (bA 23 127) HT_.out ?_
     refine pU 7 17 (bA 23 255) HT_.out ?_
     refine pU 8 18 (bA 23 511) HT_.out ?_
     refine pU 9 19 (bA 23 1023) HT_.out ?_
     refine pU 10 20 (bA 23 2047) HT_.out ?_
     refine pU 11 21 (bA 23 4095) HT_.out ?_
     refine pU 12 22 (bA 23 8191) HT_.out ?_
     refine pU 13 23 (bA 23 16383) HT_.out ?_
     refine pU 14 24 (bA 23 32767) HT_.out ?_
     refine pU 15 25 (bA 23 65535) HT_.out ?_
     refine pU 16 26 (bA 23 131071) HT_.out ?_
     refine pU 17 27 (bA 23 262143) HT_.out ?_
     refine pU 18 28 (bA 23 524287) HT_.out ?_
     refine pU 19 29 (bA 23 1048575) HT_.out ?_
     refine pU 20 30 (bA 23 2097151) HT_.out ?_
     refine pU 21 31 (bA 23 4194303) HT_.out ?_
     refine pT 22 32 (bA 23 8388607) HT_.out ?_
     refine done_ (done_of HT_.out rfK) ?_
     try go_wp2
     go_ret
     exact ⟨rfF, eTx HB.out⟩
   ·have az := decide_eq_false c2
    clear c2
    obtain rfl := smI H
    go_wp2
    go_ret
    exact ⟨rfF, eTx HB.out⟩

/-! ### graftwoodref12_May: function 10 -/
def graftwoodref12_May.f (k : Nat) (l0_0 : List (S27)) (l0_1 : List ByteArray) : Option (Bool) := (graftwoodref05_Check.f k l0_0).bind fun aq => (if aq = true then (some ((l0_1.length : Int) == (l0_0.length : Int))) else (some false))
theorem graftwoodref12_May.mono : ∀ a0 a1 k, LeO (graftwoodref12_May.f k a0 a1) (graftwoodref12_May.f (k + 1) a0 a1) := by
 intro a0 a1 k
 unfold graftwoodref12_May.f
 repeat' first | (with_reducible first | apply graftwoodref05_Check.mono | apply LeO.refl | apply LeO.none | apply LeO.ite | refine LeO.bind ?_ (fun _ => ?_)) | apply graftwoodref05_Check.mono | exact LeO.none _ | refine LeO.ite ?_ ?_ | refine LeO.bind ?_ (fun _ => ?_)
theorem graftwoodref12_May.calls (k : Nat) (ak : Option Addr) (al : Nat) (l0_0 : List (S27)) (ao : Option Addr) (ap : Nat) (l0_1 : List ByteArray) (r : Bool) (w : World) (hr0_0 : Kd.C k27 w ak l0_0.length l0_0) (hc0_0 : l0_0.length ≤ al) (hr0_1 : Kd.C Kd.string w ao l0_1.length l0_1) (hc0_1 : l0_1.length ≤ ap) (h : graftwoodref12_May.f k l0_0 l0_1 = some r) :
  Calls Tryz.prog 10 #[.agg #[.slice ak l0_0.length al, .slice ao l0_1.length ap]] w fun e w' => e = .returned (.bool r) ∧ Below w.heap.size w w' := by
 have hu25 := Tryz.underlying25
 have au := Aside0.mk hr0_0
 have av := Aside0.mk hc0_0
 clear hr0_0 hc0_0
 have aO := Aside0.mk hr0_1
 have aP := Aside0.mk hc0_1
 clear hr0_1 hc0_1
 have HB := am (Below.refl w.heap.size w)
 unfold graftwoodref12_May.f at h; have H := h; clear h
 replace H := bnd H; obtain ⟨aq, A2, H⟩ := H
 replace H := ifB H; rcases H with ⟨rfl, H⟩ | ⟨rfl, H⟩
 ·obtain rfl := smI H
  go_enter Tryz.func10, Tryz.ntmps10
  go_wp2_with (first | ((with_reducible refine gtD 1 ?_); (try (refine gate_guard (by rfl) ?_; dsimp only)); refine xBx 1 25 #[.slice ak l0_0.length al, .slice ao l0_1.length ap] ?_; intro ai hg w4 hbox hb; have ah := am (hbox); have ax := am ((gTx hg HB.out)); have ay := am ((gTx hg HB.out)); replace HB := am (sTx HB.out hb); clear hb hbox hg; obtain ⟨aB, aC, aD, aE⟩ := bxB ah) | ((with_reducible refine gtC 28 ?_); refine xCb 5 Tryz.func28 (graftwoodref05_Check.calls k _ _ l0_0 true _ (cW (Kd.C_below au.out HB.out)) av.out A2.out) fun w6 hb => ?_; replace ah := am (bB ah.out hb); replace HB := am (sTx HB.out hb); obtain ⟨aF, aG, aH, aI⟩ := bxB ah))
  go_ret
  exact ⟨rfF, eTx HB.out⟩
 ·obtain rfl := smI H
  go_enter Tryz.func10, Tryz.ntmps10
  go_wp2_with (first | ((with_reducible refine gtD 1 ?_); (try (refine gate_guard (by rfl) ?_; dsimp only)); refine xBx 1 25 #[.slice ak l0_0.length al, .slice ao l0_1.length ap] ?_; intro ai hg w8 hbox hb; have ah := am (hbox); have ax := am ((gTx hg HB.out)); have ay := am ((gTx hg HB.out)); replace HB := am (sTx HB.out hb); clear hb hbox hg; obtain ⟨aJ, aK, aL, aM⟩ := bxB ah) | ((with_reducible refine gtC 28 ?_); refine xCb 5 Tryz.func28 (graftwoodref05_Check.calls k _ _ l0_0 false _ (cW (Kd.C_below au.out HB.out)) av.out A2.out) fun w10 hb => ?_; replace ah := am (bB ah.out hb); replace HB := am (sTx HB.out hb)))
  go_ret
  exact ⟨rfF, eTx HB.out⟩

end Go.Proofs.YtomjppafgalaoaaGreatDoor.P
