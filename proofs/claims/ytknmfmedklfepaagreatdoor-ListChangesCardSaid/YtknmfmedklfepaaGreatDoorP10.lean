-- half the indentation
import Derived.Test.YtknmfmedklfepaaGreatDoorReg
import Derived.Test.YtknmfmedklfepaaGreatDoorSqz
import Derived.Test.YtknmfmedklfepaaGreatDoorP0
import Derived.Test.YtknmfmedklfepaaGreatDoorP1
import Derived.Test.YtknmfmedklfepaaGreatDoorP7
import Derived.Test.YtknmfmedklfepaaGreatDoorP9
namespace Go.Proofs.YtknmfmedklfepaaGreatDoor.P
open Go.RowKit Go.Proofs.YtknmfmedklfepaaGreatDoorW.PrintWords Go.Proofs.YtknmfmedklfepaaGreatDoorW.PrintLast Go.Proofs.YtknmfmedklfepaaGreatDoorW.PrintMore
attribute [local go_sem] max2_int min2_int max_two min_two max_three min_three max_four min_four
set_option linter.unusedVariables false
set_option linter.unusedSimpArgs false
set_option maxHeartbeats 8000000
set_option maxRecDepth 100000

attribute [local go_sem high] eqA55
/-! ### graftwoodref05_Check: function 34 -/
def graftwoodref05_Check.l0 : Nat → List (S55) → Int → Option (Bool)
 | 0, _, _ => none
 | k + 1, x0, x3 => if x3 < (x0.length : Int) then (if 0 ≤ x3 then ((graftwoodref05_May.f k ((rd_T55 x0 x3).f0) ((rd_T55 x0 x3).f1)).bind fun aq => (if aq = true then (if x3 > 0 then (if 0 ≤ (wrap64 (x3 - 1)) then (if (wrap64 (x3 - 1)) < (x0.length : Int) then ((graftwoodref05_Less.f k ((rd_T55 x0 (wrap64 (x3 - 1))).f0) ((rd_T55 x0 (wrap64 (x3 - 1))).f1) ((rd_T55 x0 x3).f0) ((rd_T55 x0 x3).f1)).bind fun an => (if an = true then (graftwoodref05_Check.l0 k x0 (wrap64 (x3 + 1))) else (some false))) else (none)) else (none)) else (graftwoodref05_Check.l0 k x0 (wrap64 (x3 + 1)))) else (some false))) else (none)) else (some true)
def graftwoodref05_Check.f (k : Nat) (l0 : List (S55)) : Option (Bool) := graftwoodref05_Check.l0 k l0 0
theorem graftwoodref05_Check.mono_l : ∀ k, (∀ y0 y1, LeO (graftwoodref05_Check.l0 k y0 y1) (graftwoodref05_Check.l0 (k + 1) y0 y1))
 | 0 => fun _ _ r h => by simp [graftwoodref05_Check.l0] at h
 | k + 1 => by
  have ih0 := graftwoodref05_Check.mono_l k
  ·intro y0 y1
   unfold graftwoodref05_Check.l0
   repeat' first | (with_reducible first | apply ih0 | apply graftwoodref05_Less.mono | apply graftwoodref05_May.mono | apply LeO.refl | apply LeO.none | apply LeO.ite | refine LeO.bind ?_ (fun _ => ?_)) | apply ih0 | apply graftwoodref05_Less.mono | apply graftwoodref05_May.mono | exact LeO.none _ | refine LeO.ite ?_ ?_ | refine LeO.bind ?_ (fun _ => ?_)
theorem graftwoodref05_Check.mono : ∀ a0 k, LeO (graftwoodref05_Check.f k a0) (graftwoodref05_Check.f (k + 1) a0) := by
 intro a0 k
 have ih0 := graftwoodref05_Check.mono_l k
 unfold graftwoodref05_Check.f
 repeat' first | (with_reducible first | apply ih0 | apply graftwoodref05_Less.mono | apply graftwoodref05_May.mono | apply LeO.refl | apply LeO.none | apply LeO.ite | refine LeO.bind ?_ (fun _ => ?_)) | apply ih0 | apply graftwoodref05_Less.mono | apply graftwoodref05_May.mono | exact LeO.none _ | refine LeO.ite ?_ ?_ | refine LeO.bind ?_ (fun _ => ?_)
def graftwoodref05_Check.T4 : Bool × List (List Nat × List Nat) := (true, [([], []), ([], []), ([0, 1], [0, 1]), ([2], [2]), ([3], [3]), ([4], [4]), ([5, 4], [5]), ([6], [6]), ([7, 6], [6, 7]), ([8, 6, 6], [6, 8]), ([9], [9]), ([9], [9]), ([11, 9], [9, 11]), ([10, 12, 9], [9, 10, 12]), ([13, 9], [9, 13]), ([9], [9]), ([9], [9]), ([15, 16, 9], [9, 15, 16]), ([17, 9], [9, 17]), ([14, 18, 9, 9], [9, 14, 18]), ([19, 9], [9, 19]), ([9, 20, 6], [6, 9, 20]), ([6, 21], [6, 21])])
def graftwoodref05_Check.B4 : List Nat := [0, 0, 3, 7, 15, 31, 63, 127, 255, 511, 1023, 1023, 3071, 8191, 16383, 1023, 1023, 99327, 230399, 524287, 1048575, 2097151, 4194303]
theorem graftwoodref05_Check.tab4 : rtab .any (opsOf Tryz.f34 4) = graftwoodref05_Check.T4 := by kernel_rfl
theorem graftwoodref05_Check.bits4 : waitsOk graftwoodref05_Check.T4.2 graftwoodref05_Check.B4 = true := by kernel_rfl
theorem graftwoodref05_Check.calls (k : Nat) (A0 : Option Addr) (c0 : Nat) (l0 : List (S55)) (r : Bool) (w : World) (hr0 : Kd.C k55 w A0 l0.length l0) (hc0 : l0.length ≤ c0) (h : graftwoodref05_Check.f k l0 = some r) :
  Calls Tryz.prog 34 #[.slice A0 l0.length c0] w fun e w' => e = .returned (.bool r) ∧ Below w.heap.size w w' := by
 have hu55 := Tryz.underlying55
 have HR0 := Aside0.mk hr0
 have HC0 := Aside0.mk hc0
 clear hr0 hc0
 have HB := am (Below.refl w.heap.size w)
 unfold graftwoodref05_Check.f at h; have H := h; clear h
 have H' := Aside0.mk H
 clear H
 go_enter Tryz.func34, Tryz.ntmps34
 go_wp2
 go_loopg [3] k (fun kq v3 w' => ∃ (aa : Int), v3 = .int .i64 aa ∧ Aside0 (graftwoodref05_Check.l0 kq l0 aa = some r) ∧ Aside0 (kq ≤ k) ∧ Aside0 (Below w.heap.size w w'))
 case atStart => exact ⟨(0), rfG, H', ⟨Nat.le_refl _⟩, ⟨eTx HB.out⟩⟩
 case round =>
  clear H'
  obtain ⟨aa, rfl, HA, HK1, HB⟩ := hrel
  cases gk with
  | zero => exact absurd HA.out (by simp [graftwoodref05_Check.l0])
  | succ k1 =>
   have H := HA.out
   clear HA
   simp only [graftwoodref05_Check.l0] at H
   replace H := ifP H; rcases H with ⟨c2, H⟩ | ⟨c2, H⟩
   ·have az := decide_eq_true c2
    clear c2
    replace H := ifN H; obtain ⟨c3, H⟩ := H
    have ar := decide_eq_true c3
    clear c3
    replace H := bnd H; obtain ⟨aq, A4, H⟩ := H
    replace H := ifB H; rcases H with ⟨rfl, H⟩ | ⟨rfl, H⟩
    ·replace H := ifP H; rcases H with ⟨c6, H⟩ | ⟨c6, H⟩
     ·have aA : decide (0 < aa) = true := decide_eq_true c6
      clear c6
      obtain ⟨ji7, ao⟩ : ∃ j_ : Int, (wrap64 (aa - 1)) = j_ := ⟨_, rfl⟩
      replace H : (if 0 ≤ (ji7) then (if (ji7) < (l0.length : Int) then ((graftwoodref05_Less.f k1 ((rd_T55 l0 (ji7)).f0) ((rd_T55 l0 (ji7)).f1) ((rd_T55 l0 aa).f0) ((rd_T55 l0 aa).f1)).bind fun an => (if an = true then (graftwoodref05_Check.l0 k1 l0 (wrap64 (aa + 1))) else (some false))) else (none)) else (none)) = some r := by first | (rw [ao] at H; exact H) | (simp only [ao] at H ⊢; exact H)
      (try rw [ao] at A4)
      have aI : (IntKind.i64.wrap (aa - 1)) = ji7 := (i64_w _).trans ao
      replace H := ifN H; obtain ⟨c8, H⟩ := H
      have aK := decide_eq_true c8
      clear c8
      replace H := ifN H; obtain ⟨c9, H⟩ := H
      have aL := decide_eq_true c9
      clear c9
      replace H := bnd H; obtain ⟨an, A10, H⟩ := H
      replace H := ifB H; rcases H with ⟨rfl, H⟩ | ⟨rfl, H⟩
      ·have H' := Aside0.mk H
       clear H
       try go_wp2
       replace HB := am (below_drew1 HB.out)
       have p191 : 0 ≤ (aa : Int) := of_decide_eq_true rfA
       have q191 : aa < (l0.length : Int) := of_decide_eq_true rfA
       obtain ⟨ad191, e191, ab, ac⟩ := at_T55 HR0.out aa p191 q191
       have hw191_1 := ac
       have hw191_0 := ab
       cases e191
       replace ab := (HB.out.cell (World.block_lt_of_cell? w _ ab)).trans ab
       replace ac := (HB.out.cell (World.block_lt_of_cell? w _ ac)).trans ac
       replace p191 := eq_true p191
       replace q191 := eq_true q191
       have p193 : 0 ≤ ((ji7) : Int) := of_decide_eq_true rfA
       have q193 : (ji7) < (l0.length : Int) := of_decide_eq_true rfA
       obtain ⟨ad193, e193, ae, af⟩ := at_T55 HR0.out (ji7) p193 q193
       have hw193_1 := af
       have hw193_0 := ae
       obtain rfl : ad191 = ad193 := (by injection e193)
       replace ae := (HB.out.cell (World.block_lt_of_cell? w _ ae)).trans ae
       replace af := (HB.out.cell (World.block_lt_of_cell? w _ af)).trans af
       replace p193 := eq_true p193
       replace q193 := eq_true q193
       have p194 : 0 ≤ (aa : Int) := of_decide_eq_true rfA
       have q194 : aa < (l0.length : Int) := of_decide_eq_true rfA
       obtain ⟨ad194, e194, ag, ah⟩ := at_T55 HR0.out aa p194 q194
       have hw194_1 := ah
       have hw194_0 := ag
       obtain rfl : ad191 = ad194 := (by injection e194)
       replace ag := (HB.out.cell (World.block_lt_of_cell? w _ ag)).trans ag
       replace ah := (HB.out.cell (World.block_lt_of_cell? w _ ah)).trans ah
       replace p194 := eq_true p194
       replace q194 := eq_true q194
       refine start_ (n := 23) (S := fun w' => w'.cell? (ad191.add ((aa).toNat * 2)) = some (.string ((rd_T55 l0 aa).f0)) ∧ w'.cell? ⟨(ad191.add ((aa).toNat * 2)).block, (ad191.add ((aa).toNat * 2)).off + 1, none⟩ = some (.string ((rd_T55 l0 aa).f1)) ∧ w'.cell? (ad191.add (((ji7)).toNat * 2)) = some (.string ((rd_T55 l0 (ji7)).f0)) ∧ w'.cell? ⟨(ad191.add (((ji7)).toNat * 2)).block, (ad191.add (((ji7)).toNat * 2)).off + 1, none⟩ = some (.string ((rd_T55 l0 (ji7)).f1)) ∧ w'.cell? (ad191.add ((aa).toNat * 2)) = some (.string ((rd_T55 l0 aa).f0)) ∧ w'.cell? ⟨(ad191.add ((aa).toNat * 2)).block, (ad191.add ((aa).toNat * 2)).off + 1, none⟩ = some (.string ((rd_T55 l0 aa).f1))) (ds := []) (bA 23 0) rfK rfl rfK ⟨((HB.out.cell (World.block_lt_of_cell? w _ hw191_0)).trans hw191_0), ((HB.out.cell (World.block_lt_of_cell? w _ hw191_1)).trans hw191_1), ((HB.out.cell (World.block_lt_of_cell? w _ hw193_0)).trans hw193_0), ((HB.out.cell (World.block_lt_of_cell? w _ hw193_1)).trans hw193_1), ((HB.out.cell (World.block_lt_of_cell? w _ hw194_0)).trans hw194_0), ((HB.out.cell (World.block_lt_of_cell? w _ hw194_1)).trans hw194_1)⟩ (fun hHeld => ?_); refine with_tabW graftwoodref05_Check.tab4 graftwoodref05_Check.bits4 (fun HT_ HW_ => ?_)
       generalize wr.drew = w12 at HB ab ac ae af ag ah hHeld ⊢
       iterate 3 refine zT HT_ ?_
       refine zL HT_ HW_ hHeld ?_ (hy := by rintro w' ⟨s0, s1, s2, s3, s4, s5⟩; go_simp; with_reducible rfl)
       refine zO HT_ fun K hK => ?_
       refine gS Tryz.func61 #[.agg #[.string ((rd_T55 l0 aa).f0), .string ((rd_T55 l0 aa).f1)]] ?_
       with_reducible refine (graftwoodref05_May.calls k1 ((rd_T55 l0 aa).f0) ((rd_T55 l0 aa).f1) true _ A4.out).mono ?_
       rintro e w13 ⟨rfl, hb⟩
       refine ⟨_, rfl, ?_⟩
       replace HB := am (sTx HB.out hb)
       refine hK.out _ _ ⟨((HB.out.cell (World.block_lt_of_cell? w _ hw191_0)).trans hw191_0), ((HB.out.cell (World.block_lt_of_cell? w _ hw191_1)).trans hw191_1), ((HB.out.cell (World.block_lt_of_cell? w _ hw193_0)).trans hw193_0), ((HB.out.cell (World.block_lt_of_cell? w _ hw193_1)).trans hw193_1), ((HB.out.cell (World.block_lt_of_cell? w _ hw194_0)).trans hw194_0), ((HB.out.cell (World.block_lt_of_cell? w _ hw194_1)).trans hw194_1)⟩ (fun hHeld => ?_)
       clear hK K
       refine mN _ ?_
       iterate 9 refine zT HT_ ?_
       refine zL HT_ HW_ hHeld ?_ (hy := by rintro w' ⟨s0, s1, s2, s3, s4, s5⟩; go_simp; with_reducible rfl)
       iterate 3 refine zT HT_ ?_
       refine zL HT_ HW_ hHeld ?_ (hy := by rintro w' ⟨s0, s1, s2, s3, s4, s5⟩; go_simp; with_reducible rfl)
       refine zO HT_ fun K hK => ?_
       refine goes_ Tryz.func62 rfK rfl #[.agg #[.string ((rd_T55 l0 (ji7)).f0), .string ((rd_T55 l0 (ji7)).f1)], .agg #[.string ((rd_T55 l0 aa).f0), .string ((rd_T55 l0 aa).f1)]] (by rfl) rfl rfl (by (try simp only [List.map_toArray, List.map_cons, List.map_nil]); first | done | (simp only [ao]; rfl) | rfl | (simp only [List.length_drop, List.length_take]; rfl)) ?_
       with_reducible refine (graftwoodref05_Less.calls k1 ((rd_T55 l0 (ji7)).f0) ((rd_T55 l0 (ji7)).f1) ((rd_T55 l0 aa).f0) ((rd_T55 l0 aa).f1) true _ A10.out).mono ?_
       rintro e w14 ⟨rfl, hb⟩
       refine ⟨_, rfl, ?_⟩
       replace HB := am (sTx HB.out hb)
       refine hK.out _ _ ⟨((HB.out.cell (World.block_lt_of_cell? w _ hw191_0)).trans hw191_0), ((HB.out.cell (World.block_lt_of_cell? w _ hw191_1)).trans hw191_1), ((HB.out.cell (World.block_lt_of_cell? w _ hw193_0)).trans hw193_0), ((HB.out.cell (World.block_lt_of_cell? w _ hw193_1)).trans hw193_1), ((HB.out.cell (World.block_lt_of_cell? w _ hw194_0)).trans hw194_0), ((HB.out.cell (World.block_lt_of_cell? w _ hw194_1)).trans hw194_1)⟩ (fun hHeld => ?_)
       clear hK K
       refine mN _ ?_
       iterate 3 refine zT HT_ ?_
       refine done_ (done_of HT_.out rfK) ?_
       try go_wp2
       go_roundg k1
       case measure => have := HK1.out; omega
       case rel => exact ⟨(wrap64 (aa + 1)), rfG, H', ⟨by have := HK1.out; omega⟩, ⟨eTx HB.out⟩⟩
      ·obtain rfl := smI H
       try go_wp2
       replace HB := am (below_drew1 HB.out)
       have p191 : 0 ≤ (aa : Int) := of_decide_eq_true rfA
       have q191 : aa < (l0.length : Int) := of_decide_eq_true rfA
       obtain ⟨ad191, e191, ab, ac⟩ := at_T55 HR0.out aa p191 q191
       have hw191_1 := ac
       have hw191_0 := ab
       cases e191
       replace ab := (HB.out.cell (World.block_lt_of_cell? w _ ab)).trans ab
       replace ac := (HB.out.cell (World.block_lt_of_cell? w _ ac)).trans ac
       replace p191 := eq_true p191
       replace q191 := eq_true q191
       have p193 : 0 ≤ ((ji7) : Int) := of_decide_eq_true rfA
       have q193 : (ji7) < (l0.length : Int) := of_decide_eq_true rfA
       obtain ⟨ad193, e193, ae, af⟩ := at_T55 HR0.out (ji7) p193 q193
       have hw193_1 := af
       have hw193_0 := ae
       obtain rfl : ad191 = ad193 := (by injection e193)
       replace ae := (HB.out.cell (World.block_lt_of_cell? w _ ae)).trans ae
       replace af := (HB.out.cell (World.block_lt_of_cell? w _ af)).trans af
       replace p193 := eq_true p193
       replace q193 := eq_true q193
       have p194 : 0 ≤ (aa : Int) := of_decide_eq_true rfA
       have q194 : aa < (l0.length : Int) := of_decide_eq_true rfA
       obtain ⟨ad194, e194, ag, ah⟩ := at_T55 HR0.out aa p194 q194
       have hw194_1 := ah
       have hw194_0 := ag
       obtain rfl : ad191 = ad194 := (by injection e194)
       replace ag := (HB.out.cell (World.block_lt_of_cell? w _ ag)).trans ag
       replace ah := (HB.out.cell (World.block_lt_of_cell? w _ ah)).trans ah
       replace p194 := eq_true p194
       replace q194 := eq_true q194
       refine start_ (n := 23) (S := fun w' => w'.cell? (ad191.add ((aa).toNat * 2)) = some (.string ((rd_T55 l0 aa).f0)) ∧ w'.cell? ⟨(ad191.add ((aa).toNat * 2)).block, (ad191.add ((aa).toNat * 2)).off + 1, none⟩ = some (.string ((rd_T55 l0 aa).f1)) ∧ w'.cell? (ad191.add (((ji7)).toNat * 2)) = some (.string ((rd_T55 l0 (ji7)).f0)) ∧ w'.cell? ⟨(ad191.add (((ji7)).toNat * 2)).block, (ad191.add (((ji7)).toNat * 2)).off + 1, none⟩ = some (.string ((rd_T55 l0 (ji7)).f1)) ∧ w'.cell? (ad191.add ((aa).toNat * 2)) = some (.string ((rd_T55 l0 aa).f0)) ∧ w'.cell? ⟨(ad191.add ((aa).toNat * 2)).block, (ad191.add ((aa).toNat * 2)).off + 1, none⟩ = some (.string ((rd_T55 l0 aa).f1))) (ds := []) (bA 23 0) rfK rfl rfK ⟨((HB.out.cell (World.block_lt_of_cell? w _ hw191_0)).trans hw191_0), ((HB.out.cell (World.block_lt_of_cell? w _ hw191_1)).trans hw191_1), ((HB.out.cell (World.block_lt_of_cell? w _ hw193_0)).trans hw193_0), ((HB.out.cell (World.block_lt_of_cell? w _ hw193_1)).trans hw193_1), ((HB.out.cell (World.block_lt_of_cell? w _ hw194_0)).trans hw194_0), ((HB.out.cell (World.block_lt_of_cell? w _ hw194_1)).trans hw194_1)⟩ (fun hHeld => ?_); refine with_tabW graftwoodref05_Check.tab4 graftwoodref05_Check.bits4 (fun HT_ HW_ => ?_)
       generalize wr.drew = w15 at HB ab ac ae af ag ah hHeld ⊢
       iterate 3 refine zT HT_ ?_
       refine zL HT_ HW_ hHeld ?_ (hy := by rintro w' ⟨s0, s1, s2, s3, s4, s5⟩; go_simp; with_reducible rfl)
       refine zO HT_ fun K hK => ?_
       refine gS Tryz.func61 #[.agg #[.string ((rd_T55 l0 aa).f0), .string ((rd_T55 l0 aa).f1)]] ?_
       with_reducible refine (graftwoodref05_May.calls k1 ((rd_T55 l0 aa).f0) ((rd_T55 l0 aa).f1) true _ A4.out).mono ?_
       rintro e w16 ⟨rfl, hb⟩
       refine ⟨_, rfl, ?_⟩
       replace HB := am (sTx HB.out hb)
       refine hK.out _ _ ⟨((HB.out.cell (World.block_lt_of_cell? w _ hw191_0)).trans hw191_0), ((HB.out.cell (World.block_lt_of_cell? w _ hw191_1)).trans hw191_1), ((HB.out.cell (World.block_lt_of_cell? w _ hw193_0)).trans hw193_0), ((HB.out.cell (World.block_lt_of_cell? w _ hw193_1)).trans hw193_1), ((HB.out.cell (World.block_lt_of_cell? w _ hw194_0)).trans hw194_0), ((HB.out.cell (World.block_lt_of_cell? w _ hw194_1)).trans hw194_1)⟩ (fun hHeld => ?_)
       clear hK K
       refine mN _ ?_
       iterate 9 refine zT HT_ ?_
       refine zL HT_ HW_ hHeld ?_ (hy := by rintro w' ⟨s0, s1, s2, s3, s4, s5⟩; go_simp; with_reducible rfl)
       iterate 3 refine zT HT_ ?_
       refine zL HT_ HW_ hHeld ?_ (hy := by rintro w' ⟨s0, s1, s2, s3, s4, s5⟩; go_simp; with_reducible rfl)
       refine zO HT_ fun K hK => ?_
       refine goes_ Tryz.func62 rfK rfl #[.agg #[.string ((rd_T55 l0 (ji7)).f0), .string ((rd_T55 l0 (ji7)).f1)], .agg #[.string ((rd_T55 l0 aa).f0), .string ((rd_T55 l0 aa).f1)]] (by rfl) rfl rfl (by (try simp only [List.map_toArray, List.map_cons, List.map_nil]); first | done | (simp only [ao]; rfl) | rfl | (simp only [List.length_drop, List.length_take]; rfl)) ?_
       with_reducible refine (graftwoodref05_Less.calls k1 ((rd_T55 l0 (ji7)).f0) ((rd_T55 l0 (ji7)).f1) ((rd_T55 l0 aa).f0) ((rd_T55 l0 aa).f1) false _ A10.out).mono ?_
       rintro e w17 ⟨rfl, hb⟩
       refine ⟨_, rfl, ?_⟩
       replace HB := am (sTx HB.out hb)
       refine hK.out _ _ ⟨((HB.out.cell (World.block_lt_of_cell? w _ hw191_0)).trans hw191_0), ((HB.out.cell (World.block_lt_of_cell? w _ hw191_1)).trans hw191_1), ((HB.out.cell (World.block_lt_of_cell? w _ hw193_0)).trans hw193_0), ((HB.out.cell (World.block_lt_of_cell? w _ hw193_1)).trans hw193_1), ((HB.out.cell (World.block_lt_of_cell? w _ hw194_0)).trans hw194_0), ((HB.out.cell (World.block_lt_of_cell? w _ hw194_1)).trans hw194_1)⟩ (fun hHeld => ?_)
       clear hK K
       refine mN _ ?_
       iterate 3 refine zT HT_ ?_
       refine done_ (done_of HT_.out rfK) ?_
       try go_wp2
       go_ret
       exact ⟨by first | rfl | (simp [errW_none, errW_some] <;> rfl) | (simp only [← ao]; first | rfl | (simp [errW_none, errW_some] <;> rfl)) | (simp [*, errW_none, errW_some] <;> rfl), eTx HB.out⟩
     ·have aA : decide (0 < aa) = false := decide_eq_false c6
      clear c6
      have H' := Aside0.mk H
      clear H
      try go_wp2
      replace HB := am (below_drew1 HB.out)
      have p191 : 0 ≤ (aa : Int) := of_decide_eq_true rfA
      have q191 : aa < (l0.length : Int) := of_decide_eq_true rfA
      obtain ⟨ad191, e191, ab, ac⟩ := at_T55 HR0.out aa p191 q191
      have hw191_1 := ac
      have hw191_0 := ab
      cases e191
      replace ab := (HB.out.cell (World.block_lt_of_cell? w _ ab)).trans ab
      replace ac := (HB.out.cell (World.block_lt_of_cell? w _ ac)).trans ac
      replace p191 := eq_true p191
      replace q191 := eq_true q191
      refine start_ (n := 23) (S := fun w' => w'.cell? (ad191.add ((aa).toNat * 2)) = some (.string ((rd_T55 l0 aa).f0)) ∧ w'.cell? ⟨(ad191.add ((aa).toNat * 2)).block, (ad191.add ((aa).toNat * 2)).off + 1, none⟩ = some (.string ((rd_T55 l0 aa).f1))) (ds := []) (bA 23 0) rfK rfl rfK ⟨((HB.out.cell (World.block_lt_of_cell? w _ hw191_0)).trans hw191_0), ((HB.out.cell (World.block_lt_of_cell? w _ hw191_1)).trans hw191_1)⟩ (fun hHeld => ?_); refine with_tabW graftwoodref05_Check.tab4 graftwoodref05_Check.bits4 (fun HT_ HW_ => ?_)
      generalize wr.drew = w18 at HB ab ac hHeld ⊢
      iterate 3 refine zT HT_ ?_
      refine zL HT_ HW_ hHeld ?_ (hy := by rintro w' ⟨s0, s1⟩; go_simp; with_reducible rfl)
      refine zO HT_ fun K hK => ?_
      refine gS Tryz.func61 #[.agg #[.string ((rd_T55 l0 aa).f0), .string ((rd_T55 l0 aa).f1)]] ?_
      with_reducible refine (graftwoodref05_May.calls k1 ((rd_T55 l0 aa).f0) ((rd_T55 l0 aa).f1) true _ A4.out).mono ?_
      rintro e w19 ⟨rfl, hb⟩
      refine ⟨_, rfl, ?_⟩
      replace HB := am (sTx HB.out hb)
      refine hK.out _ _ ⟨((HB.out.cell (World.block_lt_of_cell? w _ hw191_0)).trans hw191_0), ((HB.out.cell (World.block_lt_of_cell? w _ hw191_1)).trans hw191_1)⟩ (fun hHeld => ?_)
      clear hK K
      refine mN _ ?_
      iterate 5 refine zT HT_ ?_
      iterate 11 refine zU HT_ ?_
      iterate 2 refine zT HT_ ?_
      refine done_ (done_of HT_.out rfK) ?_
      try go_wp2
      go_roundg k1
      case measure => have := HK1.out; omega
      case rel => exact ⟨(wrap64 (aa + 1)), rfG, H', ⟨by have := HK1.out; omega⟩, ⟨eTx HB.out⟩⟩
    ·obtain rfl := smI H
     try go_wp2
     replace HB := am (below_drew1 HB.out)
     have p191 : 0 ≤ (aa : Int) := of_decide_eq_true rfA
     have q191 : aa < (l0.length : Int) := of_decide_eq_true rfA
     obtain ⟨ad191, e191, ab, ac⟩ := at_T55 HR0.out aa p191 q191
     have hw191_1 := ac
     have hw191_0 := ab
     cases e191
     replace ab := (HB.out.cell (World.block_lt_of_cell? w _ ab)).trans ab
     replace ac := (HB.out.cell (World.block_lt_of_cell? w _ ac)).trans ac
     replace p191 := eq_true p191
     replace q191 := eq_true q191
     refine start_ (n := 23) (S := fun w' => w'.cell? (ad191.add ((aa).toNat * 2)) = some (.string ((rd_T55 l0 aa).f0)) ∧ w'.cell? ⟨(ad191.add ((aa).toNat * 2)).block, (ad191.add ((aa).toNat * 2)).off + 1, none⟩ = some (.string ((rd_T55 l0 aa).f1))) (ds := []) (bA 23 0) rfK rfl rfK ⟨((HB.out.cell (World.block_lt_of_cell? w _ hw191_0)).trans hw191_0), ((HB.out.cell (World.block_lt_of_cell? w _ hw191_1)).trans hw191_1)⟩ (fun hHeld => ?_); refine with_tabW graftwoodref05_Check.tab4 graftwoodref05_Check.bits4 (fun HT_ HW_ => ?_)
     generalize wr.drew = w20 at HB ab ac hHeld ⊢
     iterate 3 refine zT HT_ ?_
     refine zL HT_ HW_ hHeld ?_ (hy := by rintro w' ⟨s0, s1⟩; go_simp; with_reducible rfl)
     refine zO HT_ fun K hK => ?_
     refine gS Tryz.func61 #[.agg #[.string ((rd_T55 l0 aa).f0), .string ((rd_T55 l0 aa).f1)]] ?_
     with_reducible refine (graftwoodref05_May.calls k1 ((rd_T55 l0 aa).f0) ((rd_T55 l0 aa).f1) false _ A4.out).mono ?_
     rintro e w21 ⟨rfl, hb⟩
     refine ⟨_, rfl, ?_⟩
     replace HB := am (sTx HB.out hb)
     refine hK.out _ _ ⟨((HB.out.cell (World.block_lt_of_cell? w _ hw191_0)).trans hw191_0), ((HB.out.cell (World.block_lt_of_cell? w _ hw191_1)).trans hw191_1)⟩ (fun hHeld => ?_)
     clear hK K
     refine mN _ ?_
     iterate 2 refine zT HT_ ?_
     iterate 15 refine zU HT_ ?_
     refine zT HT_ ?_
     refine done_ (done_of HT_.out rfK) ?_
     try go_wp2
     go_ret
     exact ⟨rfF, eTx HB.out⟩
   ·have az := decide_eq_false c2
    clear c2
    obtain rfl := smI H
    go_wp2
    go_ret
    exact ⟨rfF, eTx HB.out⟩

/-! ### graftwoodref17_May: function 13 -/
def graftwoodref17_May.l0 : Nat → List (S55) → Int → Option (Bool)
 | 0, _, _ => none
 | k + 1, x0, x3 => if x3 < (x0.length : Int) then (if 0 ≤ x3 then (if 0 ≤ (wrap64 (x3 - 1)) then (if (wrap64 (x3 - 1)) < (x0.length : Int) then (if ((rd_T55 x0 x3).f0).toList = ((rd_T55 x0 (wrap64 (x3 - 1))).f0).toList then (some false) else (graftwoodref17_May.l0 k x0 (wrap64 (x3 + 1)))) else (none)) else (none)) else (none)) else ((graftwoodref05_Check.f k x0).bind fun ap => (some ap))
def graftwoodref17_May.f (k : Nat) (l0 : List (S55)) : Option (Bool) := graftwoodref17_May.l0 k l0 1
theorem graftwoodref17_May.mono_l : ∀ k, (∀ y0 y1, LeO (graftwoodref17_May.l0 k y0 y1) (graftwoodref17_May.l0 (k + 1) y0 y1))
 | 0 => fun _ _ r h => by simp [graftwoodref17_May.l0] at h
 | k + 1 => by
  have ih0 := graftwoodref17_May.mono_l k
  ·intro y0 y1
   unfold graftwoodref17_May.l0
   repeat' first | (with_reducible first | apply ih0 | apply graftwoodref05_Check.mono | apply LeO.refl | apply LeO.none | apply LeO.ite | refine LeO.bind ?_ (fun _ => ?_)) | apply ih0 | apply graftwoodref05_Check.mono | exact LeO.none _ | refine LeO.ite ?_ ?_ | refine LeO.bind ?_ (fun _ => ?_)
theorem graftwoodref17_May.mono : ∀ a0 k, LeO (graftwoodref17_May.f k a0) (graftwoodref17_May.f (k + 1) a0) := by
 intro a0 k
 have ih0 := graftwoodref17_May.mono_l k
 unfold graftwoodref17_May.f
 repeat' first | (with_reducible first | apply ih0 | apply graftwoodref05_Check.mono | apply LeO.refl | apply LeO.none | apply LeO.ite | refine LeO.bind ?_ (fun _ => ?_)) | apply ih0 | apply graftwoodref05_Check.mono | exact LeO.none _ | refine LeO.ite ?_ ?_ | refine LeO.bind ?_ (fun _ => ?_)
theorem graftwoodref17_May.calls (k : Nat) (A0 : Option Addr) (c0 : Nat) (l0 : List (S55)) (r : Bool) (w : World) (hr0 : Kd.C k55 w A0 l0.length l0) (hc0 : l0.length ≤ c0) (h : graftwoodref17_May.f k l0 = some r) :
  Calls Tryz.prog 13 #[.slice A0 l0.length c0] w fun e w' => e = .returned (.bool r) ∧ Below w.heap.size w w' := by
 have HR0 := Aside0.mk hr0
 have HC0 := Aside0.mk hc0
 clear hr0 hc0
 have HB := am (Below.refl w.heap.size w)
 unfold graftwoodref17_May.f at h; have H := h; clear h
 have H' := Aside0.mk H
 clear H
 go_enter Tryz.func13, Tryz.ntmps13
 go_wp2
 repeat (go_quiet (fail); try go_wp2)
 go_loopg [3] k (fun kq v3 w' => ∃ (aa : Int), v3 = .int .i64 aa ∧ Aside0 (graftwoodref17_May.l0 kq l0 aa = some r) ∧ Aside0 (kq ≤ k) ∧ Aside0 (Below w.heap.size w w'))
 case atStart => exact ⟨(1), rfG, H', ⟨Nat.le_refl _⟩, ⟨eTx HB.out⟩⟩
 case round =>
  clear H'
  obtain ⟨aa, rfl, HA, HK1, HB⟩ := hrel
  cases gk with
  | zero => exact absurd HA.out (by simp [graftwoodref17_May.l0])
  | succ k1 =>
   have H := HA.out
   clear HA
   simp only [graftwoodref17_May.l0] at H
   replace H := ifP H; rcases H with ⟨c2, H⟩ | ⟨c2, H⟩
   ·have az := decide_eq_true c2
    clear c2
    replace H := ifN H; obtain ⟨c3, H⟩ := H
    have ar := decide_eq_true c3
    clear c3
    obtain ⟨ji4, au⟩ : ∃ j_ : Int, (wrap64 (aa - 1)) = j_ := ⟨_, rfl⟩
    replace H : (if 0 ≤ (ji4) then (if (ji4) < (l0.length : Int) then (if ((rd_T55 l0 aa).f0).toList = ((rd_T55 l0 (ji4)).f0).toList then (some false) else (graftwoodref17_May.l0 k1 l0 (wrap64 (aa + 1)))) else (none)) else (none)) = some r := by first | (rw [au] at H; exact H) | (simp only [au] at H ⊢; exact H)
    have aJ : (IntKind.i64.wrap (aa - 1)) = ji4 := (i64_w _).trans au
    replace H := ifN H; obtain ⟨c5, H⟩ := H
    have aF := decide_eq_true c5
    clear c5
    replace H := ifN H; obtain ⟨c6, H⟩ := H
    have aA := decide_eq_true c6
    clear c6
    replace H := ifP H; rcases H with ⟨c7, H⟩ | ⟨c7, H⟩
    ·have aB := beq_iff_eq.mpr c7
     have aG := bne_eq_false_iff_eq.mpr c7
     clear c7
     obtain rfl := smI H
     have p196 : 0 ≤ (aa : Int) := of_decide_eq_true rfA
     have q196 : aa < (l0.length : Int) := of_decide_eq_true rfA
     obtain ⟨ad196, e196, ai, aj⟩ := at_T55 HR0.out aa p196 q196
     cases e196
     replace ai := (HB.out.cell (World.block_lt_of_cell? w _ ai)).trans ai
     replace aj := (HB.out.cell (World.block_lt_of_cell? w _ aj)).trans aj
     replace p196 := eq_true p196
     replace q196 := eq_true q196
     have p197 : 0 ≤ ((ji4) : Int) := of_decide_eq_true rfA
     have q197 : (ji4) < (l0.length : Int) := of_decide_eq_true rfA
     obtain ⟨ad197, e197, ak, al⟩ := at_T55 HR0.out (ji4) p197 q197
     obtain rfl : ad196 = ad197 := (by injection e197)
     replace ak := (HB.out.cell (World.block_lt_of_cell? w _ ak)).trans ak
     replace al := (HB.out.cell (World.block_lt_of_cell? w _ al)).trans al
     replace p197 := eq_true p197
     replace q197 := eq_true q197
     go_wp2
     repeat (go_quiet (fail); try go_wp2)
     go_ret
     exact ⟨by first | rfl | (simp [errW_none, errW_some] <;> rfl) | (simp only [← au]; first | rfl | (simp [errW_none, errW_some] <;> rfl)) | (simp [*, errW_none, errW_some] <;> rfl), eTx HB.out⟩
    ·have aB := beq_eq_false_iff_ne.mpr c7
     have aG := bne_iff_ne.mpr c7
     have H' := Aside0.mk H
     clear H
     have p196 : 0 ≤ (aa : Int) := of_decide_eq_true rfA
     have q196 : aa < (l0.length : Int) := of_decide_eq_true rfA
     obtain ⟨ad196, e196, ai, aj⟩ := at_T55 HR0.out aa p196 q196
     cases e196
     replace ai := (HB.out.cell (World.block_lt_of_cell? w _ ai)).trans ai
     replace aj := (HB.out.cell (World.block_lt_of_cell? w _ aj)).trans aj
     replace p196 := eq_true p196
     replace q196 := eq_true q196
     have p197 : 0 ≤ ((ji4) : Int) := of_decide_eq_true rfA
     have q197 : (ji4) < (l0.length : Int) := of_decide_eq_true rfA
     obtain ⟨ad197, e197, ak, al⟩ := at_T55 HR0.out (ji4) p197 q197
     obtain rfl : ad196 = ad197 := (by injection e197)
     replace ak := (HB.out.cell (World.block_lt_of_cell? w _ ak)).trans ak
     replace al := (HB.out.cell (World.block_lt_of_cell? w _ al)).trans al
     replace p197 := eq_true p197
     replace q197 := eq_true q197
     go_wp2
     repeat (go_quiet (fail); try go_wp2)
     go_roundg k1
     case measure => have := HK1.out; omega
     case rel => exact ⟨(wrap64 (aa + 1)), rfG, H', ⟨by have := HK1.out; omega⟩, ⟨eTx HB.out⟩⟩
   ·have az := decide_eq_false c2
    clear c2
    replace H := bnd H; obtain ⟨ap, A8, H⟩ := H
    obtain rfl := smI H
    go_wp2_with (first | (go_at_call 34; (with_reducible refine (graftwoodref05_Check.calls k1 _ _ l0 ap _ (cW (Kd.C_below HR0.out HB.out)) HC0.out A8.out).mono ?_); rintro e w9 ⟨rfl, hb⟩; replace HB := am (sTx HB.out hb)))
    repeat (go_quiet (first | (go_at_call 34; (with_reducible refine (graftwoodref05_Check.calls k1 _ _ l0 ap _ (cW (Kd.C_below HR0.out HB.out)) HC0.out A8.out).mono ?_); rintro e w9 ⟨rfl, hb⟩; replace HB := am (sTx HB.out hb))); try go_wp2_with (first | (go_at_call 34; (with_reducible refine (graftwoodref05_Check.calls k1 _ _ l0 ap _ (cW (Kd.C_below HR0.out HB.out)) HC0.out A8.out).mono ?_); rintro e w9 ⟨rfl, hb⟩; replace HB := am (sTx HB.out hb))))
    go_ret
    exact ⟨rfF, eTx HB.out⟩

/-! ### graftwoodref05_Same: function 15 -/
def graftwoodref05_Same.l0 : Nat → List (S55) → List (S55) → Int → Option (Bool)
 | 0, _, _, _ => none
 | k + 1, x0, x1, x5 => if x5 < (x0.length : Int) then (if 0 ≤ x5 then (if x5 < (x1.length : Int) then (if (!((((rd_T55 x0 x5).f0).toList) == (((rd_T55 x1 x5).f0).toList)) || (!((((rd_T55 x0 x5).f1).toList) == (((rd_T55 x1 x5).f1).toList)))) = true then (some false) else (graftwoodref05_Same.l0 k x0 x1 (wrap64 (x5 + 1)))) else (none)) else (none)) else (some true)
def graftwoodref05_Same.f (k : Nat) (l0 : List (S55)) (l1 : List (S55)) : Option (Bool) := if (l0.length : Int) = (l1.length : Int) then (graftwoodref05_Same.l0 k l0 l1 0) else (some false)
theorem graftwoodref05_Same.mono_l : ∀ k, (∀ y0 y1 y2, LeO (graftwoodref05_Same.l0 k y0 y1 y2) (graftwoodref05_Same.l0 (k + 1) y0 y1 y2))
 | 0 => fun _ _ _ r h => by simp [graftwoodref05_Same.l0] at h
 | k + 1 => by
  have ih0 := graftwoodref05_Same.mono_l k
  ·intro y0 y1 y2
   unfold graftwoodref05_Same.l0
   repeat' first | (with_reducible first | apply ih0 | apply LeO.refl | apply LeO.none | apply LeO.ite | refine LeO.bind ?_ (fun _ => ?_)) | apply ih0 | exact LeO.none _ | refine LeO.ite ?_ ?_ | refine LeO.bind ?_ (fun _ => ?_)
theorem graftwoodref05_Same.mono : ∀ a0 a1 k, LeO (graftwoodref05_Same.f k a0 a1) (graftwoodref05_Same.f (k + 1) a0 a1) := by
 intro a0 a1 k
 have ih0 := graftwoodref05_Same.mono_l k
 unfold graftwoodref05_Same.f
 repeat' first | (with_reducible first | apply ih0 | apply LeO.refl | apply LeO.none | apply LeO.ite | refine LeO.bind ?_ (fun _ => ?_)) | apply ih0 | exact LeO.none _ | refine LeO.ite ?_ ?_ | refine LeO.bind ?_ (fun _ => ?_)
theorem graftwoodref05_Same.calls (k : Nat) (A0 : Option Addr) (c0 : Nat) (l0 : List (S55)) (A1 : Option Addr) (c1 : Nat) (l1 : List (S55)) (r : Bool) (w : World) (hr0 : Kd.C k55 w A0 l0.length l0) (hc0 : l0.length ≤ c0) (hr1 : Kd.C k55 w A1 l1.length l1) (hc1 : l1.length ≤ c1) (h : graftwoodref05_Same.f k l0 l1 = some r) :
  Calls Tryz.prog 15 #[.slice A0 l0.length c0, .slice A1 l1.length c1] w fun e w' => e = .returned (.bool r) ∧ Drawn0 w w' := by
 have hu55 := Tryz.underlying55
 have HR0 := Aside0.mk hr0
 have HC0 := Aside0.mk hc0
 clear hr0 hc0
 have HR1 := Aside0.mk hr1
 have HC1 := Aside0.mk hc1
 clear hr1 hc1
 unfold graftwoodref05_Same.f at h; have H := h; clear h
 replace H := ifP H; rcases H with ⟨c3, H⟩ | ⟨c3, H⟩
 ·have ar := beq_iff_eq.mpr c3
  have aD := bne_eq_false_iff_eq.mpr c3
  have aE : (l0.length == l1.length) = true := by first | simpa using c3 | (simp at c3 ⊢; omega)
  clear c3
  have H' := Aside0.mk H
  clear H
  go_enter Tryz.func15, Tryz.ntmps15
  go_wp2
  repeat (go_quiet (fail); try go_wp2)
  go_loopg [5] k (fun kq v5 w' => ∃ (ad : Int), v5 = .int .i64 ad ∧ Aside0 (graftwoodref05_Same.l0 kq l0 l1 ad = some r) ∧ Aside0 (kq ≤ k) ∧ Drawn0 w w')
  case atStart => exact ⟨(0), rfG, H', ⟨Nat.le_refl _⟩, rfD⟩
  case round =>
   clear H'
   obtain ⟨ad, rfl, HA, HK1, ⟨m1, rfl⟩⟩ := hrel
   cases gk with
   | zero => exact absurd HA.out (by simp [graftwoodref05_Same.l0])
   | succ k1 =>
    have H := HA.out
    clear HA
    simp only [graftwoodref05_Same.l0] at H
    replace H := ifP H; rcases H with ⟨c4, H⟩ | ⟨c4, H⟩
    ·have aH := decide_eq_true c4
     clear c4
     replace H := ifN H; obtain ⟨c5, H⟩ := H
     have aF := decide_eq_true c5
     clear c5
     replace H := ifN H; obtain ⟨c6, H⟩ := H
     have aA := decide_eq_true c6
     clear c6
     replace H := ifP H; rcases H with ⟨c7, H⟩ | ⟨c7, H⟩
     ·have aB := c7
      clear c7
      obtain rfl := smI H
      have p199 : 0 ≤ (ad : Int) := of_decide_eq_true rfA
      have q199 : ad < (l0.length : Int) := of_decide_eq_true rfA
      obtain ⟨ad199, e199, av, aw⟩ := at_T55 HR0.out ad p199 q199
      cases e199
      replace p199 := eq_true p199
      replace q199 := eq_true q199
      have p200 : 0 ≤ (ad : Int) := of_decide_eq_true rfA
      have q200 : ad < (l1.length : Int) := of_decide_eq_true rfA
      obtain ⟨ad200, e200, ax, ay⟩ := at_T55 HR1.out ad p200 q200
      cases e200
      replace p200 := eq_true p200
      replace q200 := eq_true q200
      go_wp2
      repeat (go_quiet (fail); try go_wp2)
      go_ret
      exact ⟨rfG, rfD⟩
     ·have aB := Bool.eq_false_iff.mpr c7
      clear c7
      have H' := Aside0.mk H
      clear H
      have p199 : 0 ≤ (ad : Int) := of_decide_eq_true rfA
      have q199 : ad < (l0.length : Int) := of_decide_eq_true rfA
      obtain ⟨ad199, e199, av, aw⟩ := at_T55 HR0.out ad p199 q199
      cases e199
      replace p199 := eq_true p199
      replace q199 := eq_true q199
      have p200 : 0 ≤ (ad : Int) := of_decide_eq_true rfA
      have q200 : ad < (l1.length : Int) := of_decide_eq_true rfA
      obtain ⟨ad200, e200, ax, ay⟩ := at_T55 HR1.out ad p200 q200
      cases e200
      replace p200 := eq_true p200
      replace q200 := eq_true q200
      go_wp2
      repeat (go_quiet (fail); try go_wp2)
      go_roundg k1
      case measure => have := HK1.out; omega
      case rel => exact ⟨(wrap64 (ad + 1)), rfG, H', ⟨by have := HK1.out; omega⟩, rfD⟩
    ·have aH := decide_eq_false c4
     clear c4
     obtain rfl := smI H
     go_wp2
     repeat (go_quiet (fail); try go_wp2)
     go_ret
     exact ⟨rfG, rfD⟩
 ·have ar := beq_eq_false_iff_ne.mpr c3
  have aD := bne_iff_ne.mpr c3
  have aE : (l0.length == l1.length) = false := by first | simpa using c3 | (simp at c3 ⊢; omega)
  obtain rfl := smI H
  go_enter Tryz.func15, Tryz.ntmps15
  go_wp2
  repeat (go_quiet (fail); try go_wp2)
  go_ret
  exact ⟨rfG, rfD⟩

end Go.Proofs.YtknmfmedklfepaaGreatDoor.P
