-- half the indentation
import Derived.Test.YtknmfmedklfepaaGreatDoorSqz
import Derived.Test.YtknmfmedklfepaaGreatDoorP0
namespace Go.Proofs.YtknmfmedklfepaaGreatDoor.P
open Go.RowKit Go.Proofs.YtknmfmedklfepaaGreatDoorW.PrintWords Go.Proofs.YtknmfmedklfepaaGreatDoorW.PrintLast Go.Proofs.YtknmfmedklfepaaGreatDoorW.PrintMore
attribute [local go_sem] max2_int min2_int max_two min_two max_three min_three max_four min_four
set_option linter.unusedVariables false
set_option linter.unusedSimpArgs false
set_option maxHeartbeats 8000000
set_option maxRecDepth 100000

/-! ### graftwoodlaw01_Few: function 9 -/
def graftwoodlaw01_Few.f (a0 : ByteArray) : Option (ByteArray) := if (a0.size : Int) > 400 then (if 0 ≤ 400 then (if 400 ≤ (a0.size : Int) then (some (a0.extract 0 400)) else (none)) else (none)) else (some a0)
theorem graftwoodlaw01_Few.calls (a0 : ByteArray) (r : ByteArray) (w : World) (h : graftwoodlaw01_Few.f a0 = some r) :
  Calls Tryz.prog 9 #[.string a0] w fun e w' => e = .returned (.string r) ∧ Drawn0 w w' := by
 unfold graftwoodlaw01_Few.f at h; have H := h; clear h
 replace H := ifP H; rcases H with ⟨c2, H⟩ | ⟨c2, H⟩
 ·have bl : decide (400 < (a0.size : Int)) = true := decide_eq_true c2
  have bm : decide (400 < a0.size) = true := decide_eq_true (by omega)
  clear c2
  replace H := ifN H; obtain ⟨c3, H⟩ := H
  have av := eq_true c3
  have bE := decide_eq_true c3
  clear c3
  replace H := ifN H; obtain ⟨c4, H⟩ := H
  have bF := eq_true c4
  have bG := decide_eq_true c4
  clear c4
  obtain rfl := smI H
  go_enter Tryz.func9, Tryz.ntmps9
  go_wp2
  go_ret
  exact ⟨rfG, rfD⟩
 ·have bl : decide (400 < (a0.size : Int)) = false := decide_eq_false c2
  have bm : decide (400 < a0.size) = false := decide_eq_false (by omega)
  clear c2
  obtain rfl := smI H
  go_enter Tryz.func9, Tryz.ntmps9
  go_wp2
  go_ret
  exact ⟨rfG, rfD⟩

/-! ### graftwoodlaw16_Few: function 8 -/
mutual
def graftwoodlaw16_Few.l0 : Nat → List (S63) → List (S63) → Int → Option ((List (S63)))
 | 0, _, _, _ => none
 | k + 1, x0, x3, x4 => if x4 < (x0.length : Int) then (graftwoodlaw16_Few.j1 k x0 x3 x4 (decide (x4 < 12))) else (graftwoodlaw16_Few.j1 k x0 x3 x4 false)
def graftwoodlaw16_Few.j1 : Nat → List (S63) → List (S63) → Int → Bool → Option ((List (S63)))
 | 0, _, _, _, _ => none
 | k + 1, x0, x3, x4, x14 => if x14 = true then (if 0 ≤ x4 then (if x4 < (x0.length : Int) then ((graftwoodlaw01_Few.f ((rd_T63 x0 x4).f0)).bind fun af => (graftwoodlaw16_Few.l1 k x0 x3 x4 0 af ([] : List ByteArray))) else (none)) else (none)) else (some x3)
def graftwoodlaw16_Few.l1 : Nat → List (S63) → List (S63) → Int → Int → ByteArray → List ByteArray → Option ((List (S63)))
 | 0, _, _, _, _, _, _ => none
 | k + 1, x0, x3, x4, x6, au, ap => if 0 ≤ x4 then (if x4 < (x0.length : Int) then (if x6 < (((rd_T63 x0 x4).f1).length : Int) then (if x6 < 12 then (if 0 ≤ x6 then ((graftwoodlaw01_Few.f (rdOf ByteArray.empty ((rd_T63 x0 x4).f1) x6)).bind fun az => (if ap.length < 8796093022208 then (graftwoodlaw16_Few.l1 k x0 x3 x4 (wrap64 (x6 + 1)) au (ap ++ [az])) else (none))) else (none)) else (if x3.length < 3518437208883 then (graftwoodlaw16_Few.l0 k x0 (x3 ++ [(⟨au, ap⟩ : S63)]) (wrap64 (x4 + 1))) else (none))) else (if x3.length < 3518437208883 then (graftwoodlaw16_Few.l0 k x0 (x3 ++ [(⟨au, ap⟩ : S63)]) (wrap64 (x4 + 1))) else (none))) else (none)) else (none)
end
def graftwoodlaw16_Few.f (k : Nat) (l0 : List (S63)) : Option ((List (S63))) := graftwoodlaw16_Few.l0 k l0 ([] : List (S63)) 0
theorem graftwoodlaw16_Few.mono_l : ∀ k, (∀ y0 y1 y2, LeO (graftwoodlaw16_Few.l0 k y0 y1 y2) (graftwoodlaw16_Few.l0 (k + 1) y0 y1 y2)) ∧ (∀ y0 y1 y2 y3, LeO (graftwoodlaw16_Few.j1 k y0 y1 y2 y3) (graftwoodlaw16_Few.j1 (k + 1) y0 y1 y2 y3)) ∧ (∀ y0 y1 y2 y3 y4 y5, LeO (graftwoodlaw16_Few.l1 k y0 y1 y2 y3 y4 y5) (graftwoodlaw16_Few.l1 (k + 1) y0 y1 y2 y3 y4 y5))
 | 0 => ⟨fun _ _ _ r h => by simp [graftwoodlaw16_Few.l0] at h, fun _ _ _ _ r h => by simp [graftwoodlaw16_Few.j1] at h, fun _ _ _ _ _ _ r h => by simp [graftwoodlaw16_Few.l1] at h⟩
 | k + 1 => by
  obtain ⟨ih0, ih1, ih2⟩ := graftwoodlaw16_Few.mono_l k
  refine ⟨?_, ?_, ?_⟩
  ·intro y0 y1 y2
   unfold graftwoodlaw16_Few.l0
   repeat' first | (with_reducible first | apply ih0 | apply ih1 | apply ih2 | apply LeO.refl | apply LeO.none | apply LeO.ite | refine LeO.bind ?_ (fun _ => ?_)) | apply ih0 | apply ih1 | apply ih2 | exact LeO.none _ | refine LeO.ite ?_ ?_ | refine LeO.bind ?_ (fun _ => ?_)
  ·intro y0 y1 y2 y3
   unfold graftwoodlaw16_Few.j1
   repeat' first | (with_reducible first | apply ih0 | apply ih1 | apply ih2 | apply LeO.refl | apply LeO.none | apply LeO.ite | refine LeO.bind ?_ (fun _ => ?_)) | apply ih0 | apply ih1 | apply ih2 | exact LeO.none _ | refine LeO.ite ?_ ?_ | refine LeO.bind ?_ (fun _ => ?_)
  ·intro y0 y1 y2 y3 y4 y5
   unfold graftwoodlaw16_Few.l1
   repeat' first | (with_reducible first | apply ih0 | apply ih1 | apply ih2 | apply LeO.refl | apply LeO.none | apply LeO.ite | refine LeO.bind ?_ (fun _ => ?_)) | apply ih0 | apply ih1 | apply ih2 | exact LeO.none _ | refine LeO.ite ?_ ?_ | refine LeO.bind ?_ (fun _ => ?_)
theorem graftwoodlaw16_Few.mono : ∀ a0 k, LeO (graftwoodlaw16_Few.f k a0) (graftwoodlaw16_Few.f (k + 1) a0) := by
 intro a0 k
 obtain ⟨ih0, ih1, ih2⟩ := graftwoodlaw16_Few.mono_l k
 unfold graftwoodlaw16_Few.f
 repeat' first | (with_reducible first | apply ih0 | apply ih1 | apply ih2 | apply LeO.refl | apply LeO.none | apply LeO.ite | refine LeO.bind ?_ (fun _ => ?_)) | apply ih0 | apply ih1 | apply ih2 | exact LeO.none _ | refine LeO.ite ?_ ?_ | refine LeO.bind ?_ (fun _ => ?_)
def graftwoodlaw16_Few.T9 : Bool × List (List Nat × List Nat) := (true, [([], []), ([0], [0]), ([], []), ([], []), ([2, 3], [2, 3]), ([4], [4]), ([5], [5]), ([], []), ([6, 7], [6, 7]), ([8], [8]), ([9], [9]), ([10], [10]), ([1, 11, 10], [1, 11]), ([0, 1, 2, 3, 4, 5, 6, 7, 8, 9, 10, 11, 12], []), ([13, 12, 12, 0, 1, 2, 3, 4, 5, 6, 7, 8, 9, 10, 11, 12], [12, 13])])
def graftwoodlaw16_Few.B9 : List Nat := [0, 1, 0, 0, 12, 28, 60, 0, 252, 508, 1020, 2044, 4095, 8191, 16383]
theorem graftwoodlaw16_Few.tab9 : rtab .any (opsOf Tryz.f8 9) = graftwoodlaw16_Few.T9 := by kernel_rfl
theorem graftwoodlaw16_Few.bits9 : waitsOk graftwoodlaw16_Few.T9.2 graftwoodlaw16_Few.B9 = true := by kernel_rfl
theorem graftwoodlaw16_Few.calls (k : Nat) (A0 : Option Addr) (c0 : Nat) (l0 : List (S63)) (r : List (S63)) (w : World) (hr0 : Kd.C k63 w A0 l0.length l0) (hc0 : l0.length ≤ c0) (h : graftwoodlaw16_Few.f k l0 = some r) :
  Calls Tryz.prog 8 #[.slice A0 l0.length c0] w fun e w' => ∃ v0_ : Value, e = .returned (v0_) ∧ Kd.S k63 63 w' w.heap.size (fun _ => True) v0_ r ∧ Below w.heap.size w w' := by
 have hu63 := Tryz.underlying63
 have HR0 := Aside0.mk hr0
 have HC0 := Aside0.mk hc0
 clear hr0 hc0
 have HB := am (Below.refl w.heap.size w)
 unfold graftwoodlaw16_Few.f at h; have H := h; clear h
 have H' := Aside0.mk H
 clear H
 go_enter Tryz.func8, Tryz.ntmps8
 go_wp2
 go_loopg [3, 4] k (fun kq v3 v4 w' => ∃ (ak : List (S63)) (ac : Int), v4 = .int .i64 ac ∧ Aside0 (graftwoodlaw16_Few.l0 kq l0 ak ac = some r) ∧ Aside0 (kq ≤ k) ∧ Aside0 (Kd.S k63 63 w' w.heap.size (fun _ => True) v3 ak) ∧ Aside0 (Below w.heap.size w w'))
 case atStart => exact ⟨(([] : List (S63))), (0), rfG, H', ⟨Nat.le_refl _⟩, ⟨by first | exact Kd.S_nil _ _ _ _ _ | exact Kd.N_nil _ _ _ _ _ | exact Kd.V_nil _ _ _ _ _ | exact Kd.Q_nil _ _ _ _ _ | exact Kd.R_nil _ _ _ _ _⟩, ⟨eTx HB.out⟩⟩
 case round =>
  clear H'
  obtain ⟨ak, ac, rfl, HA, HK1, ai, HB⟩ := hrel
  cases gk with
  | zero => exact absurd HA.out (by simp [graftwoodlaw16_Few.l0])
  | succ k1 =>
   have H := HA.out
   clear HA
   simp only [graftwoodlaw16_Few.l0] at H
   have HC2 := Aside0.mk H
   clear H
   go_upto_region 3 with (fail)
   go_cut [14] (fun v14 wc => ∃ (kq : Nat) (aA : Bool), v14 = .bool aA ∧ Aside0 (graftwoodlaw16_Few.j1 kq l0 ak ac aA = some r) ∧ Aside0 (kq ≤ k1) ∧ Aside0 (Kd.S k63 63 wc w.heap.size (fun _ => True) u3 ak) ∧ Aside0 (Below w.heap.size w wc))
   case first =>
    have H := HC2.out
    clear HC2
    replace H := ifP H; rcases H with ⟨c3, H⟩ | ⟨c3, H⟩
    ·have av := decide_eq_true c3
     clear c3
     (first | rw [av] | (simp only [i64_w, i32_w]; rw [av]) | skip)
     have H' := Aside0.mk H
     clear H
     go_wp2
     go_meet
     case rel => exact ⟨_, (decide (ac < 12)), rfG, H', ⟨by have := HK1.out; first | omega | exact Nat.le_refl _⟩, ⟨by (with_reducible repeat (first | apply Kd.S_alloc | apply Kd.S_drewN | apply Kd.S_drew)); exact ai.out⟩, ⟨eTx HB.out⟩⟩
    ·have av := decide_eq_false c3
     clear c3
     (first | rw [av] | (simp only [i64_w, i32_w]; rw [av]) | skip)
     have H' := Aside0.mk H
     clear H
     go_wp2
     go_meet
     case rel => exact ⟨_, (false), rfG, H', ⟨by have := HK1.out; first | omega | exact Nat.le_refl _⟩, ⟨by (with_reducible repeat (first | apply Kd.S_alloc | apply Kd.S_drewN | apply Kd.S_drew)); exact ai.out⟩, ⟨eTx HB.out⟩⟩
   case rest =>
    clear HC2
    obtain ⟨kq, aA, rfl, HA, HJ1, ai, HB⟩ := hcut
    cases kq with
    | zero => exact absurd HA.out (by simp [graftwoodlaw16_Few.j1])
    | succ kj1 =>
     have H := HA.out
     clear HA
     simp only [graftwoodlaw16_Few.j1] at H
     replace H := ifB H; rcases H with ⟨rfl, H⟩ | ⟨rfl, H⟩
     ·replace H := ifN H; obtain ⟨c5, H⟩ := H
      have bo := decide_eq_true c5
      clear c5
      replace H := ifN H; obtain ⟨c6, H⟩ := H
      have bp := decide_eq_true c6
      clear c6
      replace H := bnd H; obtain ⟨af, A7, H⟩ := H
      have H' := Aside0.mk H
      clear H
      have p101 : 0 ≤ (ac : Int) := of_decide_eq_true rfA
      have q101 : ac < (l0.length : Int) := of_decide_eq_true rfA
      obtain ⟨ad101, bq, br, e101, aq, ar, hl101_1, hi101_1⟩ := at_T63 HR0.out ac p101 q101
      cases e101
      replace aq := (HB.out.cell (World.block_lt_of_cell? w _ aq)).trans aq
      replace ar := (HB.out.cell (World.block_lt_of_cell? w _ ar)).trans ar
      have a9 := Aside0.mk hi101_1
      have a_ := Aside0.mk hl101_1
      clear hi101_1 hl101_1
      replace p101 := eq_true p101
      replace q101 := eq_true q101
      go_wp2_with (first | ((with_reducible refine gtC 9 ?_); refine xCz 22 Tryz.func9 (graftwoodlaw01_Few.calls ((rd_T63 l0 ac).f0) af _ A7.out) fun nd => ?_; (try (rw [drewN_self wc]; generalize hq_ : World.drewN wc _ = wc; have n0_ : Aside0 (Kd.S k63 63 wc w.heap.size (fun _ => True) u3 ak) := ⟨by rw [← hq_]; exact (by (with_reducible repeat (first | apply Kd.S_alloc | apply Kd.S_drewN | apply Kd.S_drew)); exact ai.out)⟩; have n1_ : Aside0 (Below w.heap.size w wc) := ⟨by rw [← hq_]; exact (eTx HB.out)⟩; clear ai HB hq_; have ai := n0_; have HB := n1_; clear n0_ n1_))) | ((with_reducible refine gtD 5 ?_); refine xBx 5 63 #[.string (⟨#[]⟩ : ByteArray), .slice none 0 0] ?_; intro ae hg w8 hbox hb; replace ai := am (Kd.S_below (Kd.S_elderB (by (with_reducible repeat (first | apply Kd.S_alloc | apply Kd.S_drewN | apply Kd.S_drew)); exact ai.out) ae (Nat.le_of_eq hg.symm)) hb); have ab := am (hbox); have bv := am ((gTx hg HB.out)); have bw := am ((gTx hg HB.out)); replace HB := am (sTx HB.out hb); clear hb hbox hg; obtain ⟨aR, aU, aV, aW⟩ := bxB ab))
      go_loopg [6] kj1 (fun kq v6 w' => ∃ (aj : Int) (aa : List ByteArray) (u104001 : Value), v6 = .int .i64 aj ∧ Aside0 (graftwoodlaw16_Few.l1 kq l0 ak ac aj af aa = some r) ∧ Aside0 (kq ≤ kj1) ∧ Aside0 (Kd.S k63 63 w' w.heap.size (fun k_ => some k_ ≠ (u104001 : Value).ownBlock ∧ k_ ≠ ae) u3 ak) ∧ Aside0 (Kd.R Kd.string 9 w' w.heap.size (fun _ => True) u104001 aa) ∧ Aside0 (w'.heap[ae]? = some (.cells #[.string af, u104001] 63 (0, 0))) ∧ Aside0 (Below w.heap.size w w'))
      case atStart => exact ⟨(0), (([] : List ByteArray)), (.slice none 0 0), rfG, H', ⟨Nat.le_refl _⟩, ⟨by (with_reducible repeat (first | apply Kd.S_alloc | apply Kd.S_drewN | apply Kd.S_drew)); exact Kd.S_mono (Kd.S_far (p := ⟨ae, 1, none⟩) (Kd.S_far (p := ⟨ae, 0, none⟩) (Kd.S_mono ai.out (fun k_ hk => (⟨hk, hk.2⟩ : _ ∧ k_ ≠ ae))) (fun _ hk => hk.2) (.string af)) (fun _ hk => hk.2) (.slice none 0 0)) (fun _ hk => ⟨(by simp [Value.ownBlock]), hk.1.2⟩)⟩, ⟨rfM⟩, ⟨kBk⟩, ⟨eTx HB.out⟩⟩
      case round =>
       clear H'
       obtain ⟨aj, aa, u104001, rfl, HA, HK3, ai, ad, ab, HB⟩ := hrel
       cases gk with
       | zero => exact absurd HA.out (by simp [graftwoodlaw16_Few.l1])
       | succ k3 =>
        have H := HA.out
        clear HA
        simp only [graftwoodlaw16_Few.l1] at H
        replace H := ifN H; obtain ⟨c10, H⟩ := H
        have bx := decide_eq_true c10
        clear c10
        replace H := ifN H; obtain ⟨c11, H⟩ := H
        have bz := decide_eq_true c11
        clear c11
        replace H := ifP H; rcases H with ⟨c12, H⟩ | ⟨c12, H⟩
        ·have a1 := decide_eq_true c12
         clear c12
         replace H := ifP H; rcases H with ⟨c13, H⟩ | ⟨c13, H⟩
         ·have a2 := decide_eq_true c13
          clear c13
          replace H := ifN H; obtain ⟨c14, H⟩ := H
          have bC := decide_eq_true c14
          clear c14
          replace H := bnd H; obtain ⟨az, A15, H⟩ := H
          replace H := ifN H; obtain ⟨c16, H⟩ := H
          have LMc16 := Aside0.mk c16
          clear c16
          obtain ⟨aG, aw⟩ : ∃ y_ : List ByteArray, y_ = (aa ++ [az]) := ⟨_, rfl⟩
          replace H : (graftwoodlaw16_Few.l1 k3 l0 ak ac (wrap64 (aj + 1)) af aG) = some r := by first | (rw [aw]; with_reducible exact H) | (have H2_ := (Option.bind_some _ _).symm.trans H; rw [aw]; with_reducible exact H2_) | (have H2_ := (Option.bind_some _ _).symm.trans H; with_reducible exact H2_) | with_reducible exact H | (rw [aw]; exact H) | exact H
          have Ny108 := Aside0.mk aw
          clear aw
          have H' := Aside0.mk H
          clear H
          have p104 : 0 ≤ (ac : Int) := of_decide_eq_true rfA
          have q104 : ac < (l0.length : Int) := of_decide_eq_true rfA
          obtain ⟨ad104, aH, aI, e104, ag, ah, hl104_1, hi104_1⟩ := at_T63 HR0.out ac p104 q104
          obtain rfl : ad101 = ad104 := (by injection e104)
          replace ag := (HB.out.cell (World.block_lt_of_cell? w _ ag)).trans ag
          replace ah := (HB.out.cell (World.block_lt_of_cell? w _ ah)).trans ah
          have aC := Aside0.mk hi104_1
          have aD := Aside0.mk hl104_1
          clear hi104_1 hl104_1
          replace p104 := eq_true p104
          replace q104 := eq_true q104
          try go_wp2
          replace ai := am (Kd.S_drew ai.out)
          replace ad := am (Kd.R_drew ad.out)
          replace ab := am (blk_drew ab.out)
          replace HB := am (below_drew1 HB.out)
          have p105 : 0 ≤ (ac : Int) := of_decide_eq_true rfA
          have q105 : ac < (l0.length : Int) := of_decide_eq_true rfA
          obtain ⟨ad105, bs, aX, e105, al, an, hl105_1, hi105_1⟩ := at_T63 HR0.out ac p105 q105
          have hw105_1 := an
          have hw105_0 := al
          obtain rfl : ad101 = ad105 := (by injection e105)
          replace al := (HB.out.cell (World.block_lt_of_cell? w _ al)).trans al
          replace an := (HB.out.cell (World.block_lt_of_cell? w _ an)).trans an
          have aE := Aside0.mk hi105_1
          have bb := Aside0.mk hl105_1
          clear hi105_1 hl105_1
          replace p105 := eq_true p105
          replace q105 := eq_true q105
          have p106 : 0 ≤ (aj : Int) := of_decide_eq_true rfA
          have q106 : aj < (((rd_T63 l0 ac).f1).length : Int) := of_decide_eq_true rfA
          obtain ⟨ad106, e106, ao⟩ := Kd.at_string aE.out aj p106 q106
          have hw106_0 := ao
          cases e106
          replace ao := (HB.out.cell (World.block_lt_of_cell? w _ ao)).trans ao
          replace p106 := eq_true p106
          replace q106 := eq_true q106
          refine start_ (n := 15) (S := fun w' => w'.cell? ⟨ae, 0, none⟩ = some (.string af) ∧ w'.cell? ⟨ae, 1, none⟩ = some (u104001) ∧ w'.cell? (ad101.add ((ac).toNat * 2)) = some (.string ((rd_T63 l0 ac).f0)) ∧ w'.cell? ⟨(ad101.add ((ac).toNat * 2)).block, (ad101.add ((ac).toNat * 2)).off + 1, none⟩ = some (.slice (some ad106) ((rd_T63 l0 ac).f1).length aX) ∧ w'.cell? (ad106.add (aj).toNat) = some (.string (rdOf ByteArray.empty ((rd_T63 l0 ac).f1) aj))) (ds := [14]) (bA 15 0) rfK rfl rfK ⟨cT ab 0, cT ab 1, ((HB.out.cell (World.block_lt_of_cell? w _ hw105_0)).trans hw105_0), ((HB.out.cell (World.block_lt_of_cell? w _ hw105_1)).trans hw105_1), ((HB.out.cell (World.block_lt_of_cell? w _ hw106_0)).trans hw106_0)⟩ (fun hHeld => ?_); refine with_tabW graftwoodlaw16_Few.tab9 graftwoodlaw16_Few.bits9 (fun HT_ HW_ => ?_)
          generalize wr.drew = w17 at ai ad ab HB aE al an ao hHeld ⊢
          refine pT 0 38 (bA 15 1) HT_.out ?_
          refine pT 2 40 (bA 15 5) HT_.out ?_
          refine pT 3 41 (bA 15 13) HT_.out ?_
          refine pT 4 42 (bA 15 29) HT_.out ?_
          refine pT 5 43 (bA 15 61) HT_.out ?_
          refine pT 7 45 (bA 15 189) HT_.out ?_
          refine tT 1 39 (bA 15 191) HT_.out HW_.out hHeld ?_ (hy := by rintro w' ⟨s0, s1, s2, s3, s4⟩; go_simp; with_reducible rfl)
          refine tT 6 44 (bA 15 255) HT_.out HW_.out hHeld ?_ (hy := by rintro w' ⟨s0, s1, s2, s3, s4⟩; go_simp; with_reducible rfl)
          refine pT 8 46 (bA 15 511) HT_.out ?_
          refine tT 9 47 (bA 15 1023) HT_.out HW_.out hHeld ?_ (hy := by rintro w' ⟨s0, s1, s2, s3, s4⟩; go_simp; with_reducible rfl)
          refine oT 10 (bA 15 2047) HT_.out fun K hK => ?_
          refine gS Tryz.func9 #[.string (rdOf ByteArray.empty ((rd_T63 l0 ac).f1) aj)] ?_
          with_reducible refine (graftwoodlaw01_Few.calls (rdOf ByteArray.empty ((rd_T63 l0 ac).f1) aj) az _ A15.out).mono ?_
          rintro e w' ⟨rfl, ⟨nd, rfl⟩⟩
          refine ⟨_, rfl, ?_⟩
          refine hK.out _ _ ⟨cT ab 0, cT ab 1, ((HB.out.cell (World.block_lt_of_cell? w _ hw105_0)).trans hw105_0), ((HB.out.cell (World.block_lt_of_cell? w _ hw105_1)).trans hw105_1), ((HB.out.cell (World.block_lt_of_cell? w _ hw106_0)).trans hw106_0)⟩ (fun hHeld => ?_)
          clear hK K
          refine mN 48 ?_
          refine oT 11 (bA 15 4095) HT_.out fun K hK => ?_
          refine value_ (w1 := ?_) (v := ?_) (by rfl) rfl ?_ ?_
          rotate_left 2
          ·go_simp
           constructor
           ·rfl
           ·rfl
          refine hK.out _ _ ⟨(blk_cell (blk_alloc ab.out _) 0).trans rfl, (blk_cell (blk_alloc ab.out _) 1).trans rfl, (World.cell?_alloc_lt _ _ _ (World.block_lt_of_cell? _ _ (((HB.out.cell (World.block_lt_of_cell? w _ hw105_0)).trans hw105_0)))).trans (((HB.out.cell (World.block_lt_of_cell? w _ hw105_0)).trans hw105_0)), (World.cell?_alloc_lt _ _ _ (World.block_lt_of_cell? _ _ (((HB.out.cell (World.block_lt_of_cell? w _ hw105_1)).trans hw105_1)))).trans (((HB.out.cell (World.block_lt_of_cell? w _ hw105_1)).trans hw105_1)), (World.cell?_alloc_lt _ _ _ (World.block_lt_of_cell? _ _ (((HB.out.cell (World.block_lt_of_cell? w _ hw106_0)).trans hw106_0)))).trans (((HB.out.cell (World.block_lt_of_cell? w _ hw106_0)).trans hw106_0))⟩ (fun hHeld => ?_)
          clear hK K
          refine mN 49 ?_
          refine oT 12 (bA 15 8191) HT_.out fun K hK => ?_
          refine Kd.R_append_step Kd.string (w0 := w) w.heap.size (by rfl) (.tmp 39) (.tmp 49) 61 9 (.string ⟨#[]⟩) 16 rfl Tryz.underlying61 info9 rfl (by decide) (by omega) u104001 aa az [.string az] (fun _ => True) (fun _ => False) rfl rfl ?aP (fun _ hk => hk.elim) ?aF ?aO ?aB ?aS ?aL ?_
          (case aP => exact rfl)
          (case aB => exact (eTx HB.out))
          (case aF => exact (fun _ _ => trivial))
          (case aO => exact (rT ad.out))
          (case aS => exact (below_size (eTx HB.out)))
          (case aL => have := LMc16.out; omega)
          intro bH w18 ho hb hg hat
          rw [← Ny108.out] at ho
          replace ai := am (Kd.S_after (ok := (fun k_ => k_ ≠ ae)) (by (with_reducible repeat (first | apply Kd.S_alloc | apply Kd.S_drewN | apply Kd.S_drew)); exact Kd.S_mono ai.out (fun _ hk => ⟨hk.2, hk.1⟩)) hg hat)
          replace ab := am (blk_grown (g := ae) (o := .cells #[.string af, u104001] 63 (0, 0)) (bT ab.out) hg (Kd.R_ne ad.out ab.out (by decide)))
          replace HB := am (hb)
          have aQ := am (ho)
          clear ad ho hb hg hat
          obtain ⟨aY, aZ, a4⟩ := Kd.R_slice aQ.out
          (first | subst a4 | (injection a4 with f1_ f2_ f3_; have f4_ := f1_.symm; have f5_ := f3_.symm; clear f1_ f2_ f3_; subst f4_; subst f5_))
          refine hK.out _ _ ⟨cT ab 0, cT ab 1, ((HB.out.cell (World.block_lt_of_cell? w _ hw105_0)).trans hw105_0), ((HB.out.cell (World.block_lt_of_cell? w _ hw105_1)).trans hw105_1), ((HB.out.cell (World.block_lt_of_cell? w _ hw106_0)).trans hw106_0)⟩ (fun hHeld => ?_)
          clear hK K
          refine mN 50 ?_
          refine pT 13 51 (bA 15 16383) HT_.out ?_
          refine last_ (i := 14) (N := none) (bA 15 32767) rfl rfl (one_of HT_.out rfK) (by decide) (fun K hK => ?_)
          have bI : w18.cell? ⟨ae, 1, none⟩ = some (u104001) := cT ab 1
          have bD := blk_frozen ab.out 1
          refine skip_ (w1 := ?_) (by rfl) rfl ?_ ?_
          rotate_left
          ·go_simp
           rfl
          refine hK.out _ _ ?_
          clear hK K
          refine done_ (done_of HT_.out rfK) ?_
          try go_wp2
          go_roundg k3
          case measure => have := HK1.out; have := HJ1.out; have := HK3.out; omega
          case rel => exact ⟨(wrap64 (aj + 1)), (aG), (.slice aY aG.length aZ), rfG, H', ⟨by have := HK1.out; have := HJ1.out; have := HK3.out; omega⟩, ⟨by (with_reducible repeat (first | apply Kd.S_alloc | apply Kd.S_drewN | apply Kd.S_drew)); exact Kd.S_mono (Kd.S_far (p := ⟨ae, 1, none⟩) (Kd.S_mono ai.out (fun k_ hk => (⟨hk, hk.1⟩ : _ ∧ k_ ≠ ae))) (fun _ hk => hk.2) (.slice aY aG.length aZ)) (fun _ hk => ⟨hk.1.2, hk.1.1⟩)⟩, ⟨by (with_reducible repeat (first | apply Kd.R_alloc | apply Kd.R_drewN | apply Kd.R_drew)); exact Kd.R_mono (Kd.R_far (p := ⟨ae, 1, none⟩) (Kd.R_types aQ.out ab.out (by decide)) (fun _ hk => hk.2) (.slice aY aG.length aZ)) (fun _ hk => trivial)⟩, ⟨kBk⟩, ⟨eTx HB.out⟩⟩
         ·have a2 := decide_eq_false c13
          clear c13
          replace H := ifN H; obtain ⟨c21, H⟩ := H
          have LMc21 := Aside0.mk c21
          clear c21
          obtain ⟨a5, ax⟩ : ∃ y_ : List (S63), y_ = (ak ++ [(⟨af, aa⟩ : S63)]) := ⟨_, rfl⟩
          replace H : (graftwoodlaw16_Few.l0 k3 l0 a5 (wrap64 (ac + 1))) = some r := by first | (rw [ax]; with_reducible exact H) | (have H2_ := (Option.bind_some _ _).symm.trans H; rw [ax]; with_reducible exact H2_) | (have H2_ := (Option.bind_some _ _).symm.trans H; with_reducible exact H2_) | with_reducible exact H | (rw [ax]; exact H) | exact H
          have Ny111 := Aside0.mk ax
          clear ax
          have H' := Aside0.mk H
          clear H
          have p104 : 0 ≤ (ac : Int) := of_decide_eq_true rfA
          have q104 : ac < (l0.length : Int) := of_decide_eq_true rfA
          obtain ⟨ad104, aH, aI, e104, ag, ah, hl104_1, hi104_1⟩ := at_T63 HR0.out ac p104 q104
          obtain rfl : ad101 = ad104 := (by injection e104)
          replace ag := (HB.out.cell (World.block_lt_of_cell? w _ ag)).trans ag
          replace ah := (HB.out.cell (World.block_lt_of_cell? w _ ah)).trans ah
          have aC := Aside0.mk hi104_1
          have aD := Aside0.mk hl104_1
          clear hi104_1 hl104_1
          replace p104 := eq_true p104
          replace q104 := eq_true q104
          obtain ⟨bc, be, bf, bg⟩ := bxB ab
          obtain ⟨aJ, aK, bt⟩ := Kd.R_slice ad.out
          subst bt
          go_wp2_with (first | ((with_reducible refine gate_builtin (b := .append) (xs := #[.tmp 52, .tmp 54]) rfl ?_); at_builtin; refine Kd.S_append k63 (w0 := w) w.heap.size rfl (.tmp 52) (.tmp 54) 23 63 (.agg #[(.string ⟨#[]⟩), (.slice none 0 0)]) 40 rfl Tryz.underlying23 info63 rfl (by decide) (by omega) u3 ak (⟨af, aa⟩ : S63) [.string af, .slice aJ aa.length aK] (fun k_ => k_ ≠ ae) (fun k_ => some k_ = (.slice aJ aa.length aK : Value).ownBlock) rfl rfl ?aP (fun k_ hk_ => ((Kd.R_mono (ok' := fun k_ => ((fun k_ => k_ ≠ ae)) k_ ∧ some k_ ≠ (u3 : Value).ownBlock) (Kd.R_types (Kd.R_apart' (ad.out) (Kd.S_typed ai.out) (by decide)) ab.out (by decide)) (fun k_ hk => ⟨hk.2, hk.1.2⟩))).1 k_ hk_.symm) ?aF ?aO ?aB ?aS ?aL ?_; (case aP => exact k63_mkM _ _ _ (⟨af, aa⟩ : S63) (Kd.R_mono (Kd.R_tight rfl (Kd.R_mono (ok' := fun k_ => ((fun k_ => k_ ≠ ae)) k_ ∧ some k_ ≠ (u3 : Value).ownBlock) (Kd.R_types (Kd.R_apart' (ad.out) (Kd.S_typed ai.out) (by decide)) ab.out (by decide)) (fun k_ hk => ⟨hk.2, hk.1.2⟩))) (fun _ h_ => h_))); (case aB => exact (eTx HB.out)); (case aF => exact (fun k_ hk => Kd.freshB (g := ae) (o := .cells #[.string af, .slice aJ aa.length aK] 63 (0, 0)) (bT ab.out) k_ hk)); (case aO => exact (by (with_reducible repeat (first | apply Kd.S_alloc | apply Kd.S_drewN | apply Kd.S_drew)); exact Kd.S_mono ai.out (fun k_ hk => ⟨hk.2, fun e_ => hk.1 e_⟩))); (case aS => exact (below_size (eTx HB.out))); (case aL => have := LMc21.out; omega); intro bJ w23 ho hb hg hat; rw [← Ny111.out] at ho; replace ab := am (blk_grown (g := ae) (o := .cells #[.string af, .slice aJ aa.length aK] 63 (0, 0)) (bT ab.out) hg (Kd.S_away ai.out (fun _ hk => hk.2))); replace HB := am (hb); have a6 := am (ho); clear ai ad ho hb hg hat))
          go_roundg k3
          case measure => have := HK1.out; have := HJ1.out; have := HK3.out; omega
          case rel => exact ⟨(a5), (wrap64 (ac + 1)), rfG, H', ⟨by have := HK1.out; have := HJ1.out; have := HK3.out; omega⟩, ⟨by (with_reducible repeat (first | apply Kd.S_alloc | apply Kd.S_drewN | apply Kd.S_drew)); exact Kd.S_mono a6.out (fun _ hk => trivial)⟩, ⟨eTx HB.out⟩⟩
        ·have a1 := decide_eq_false c12
         clear c12
         replace H := ifN H; obtain ⟨c25, H⟩ := H
         have LMc25 := Aside0.mk c25
         clear c25
         obtain ⟨a7, ay⟩ : ∃ y_ : List (S63), y_ = (ak ++ [(⟨af, aa⟩ : S63)]) := ⟨_, rfl⟩
         replace H : (graftwoodlaw16_Few.l0 k3 l0 a7 (wrap64 (ac + 1))) = some r := by first | (rw [ay]; with_reducible exact H) | (have H2_ := (Option.bind_some _ _).symm.trans H; rw [ay]; with_reducible exact H2_) | (have H2_ := (Option.bind_some _ _).symm.trans H; with_reducible exact H2_) | with_reducible exact H | (rw [ay]; exact H) | exact H
         have Ny114 := Aside0.mk ay
         clear ay
         have H' := Aside0.mk H
         clear H
         have p104 : 0 ≤ (ac : Int) := of_decide_eq_true rfA
         have q104 : ac < (l0.length : Int) := of_decide_eq_true rfA
         obtain ⟨ad104, aH, aI, e104, ag, ah, hl104_1, hi104_1⟩ := at_T63 HR0.out ac p104 q104
         obtain rfl : ad101 = ad104 := (by injection e104)
         replace ag := (HB.out.cell (World.block_lt_of_cell? w _ ag)).trans ag
         replace ah := (HB.out.cell (World.block_lt_of_cell? w _ ah)).trans ah
         have aC := Aside0.mk hi104_1
         have aD := Aside0.mk hl104_1
         clear hi104_1 hl104_1
         replace p104 := eq_true p104
         replace q104 := eq_true q104
         obtain ⟨bh, bi, bj, bk⟩ := bxB ab
         obtain ⟨aM, aN, bu⟩ := Kd.R_slice ad.out
         subst bu
         go_wp2_with (first | ((with_reducible refine gate_builtin (b := .append) (xs := #[.tmp 52, .tmp 54]) rfl ?_); at_builtin; refine Kd.S_append k63 (w0 := w) w.heap.size rfl (.tmp 52) (.tmp 54) 23 63 (.agg #[(.string ⟨#[]⟩), (.slice none 0 0)]) 40 rfl Tryz.underlying23 info63 rfl (by decide) (by omega) u3 ak (⟨af, aa⟩ : S63) [.string af, .slice aM aa.length aN] (fun k_ => k_ ≠ ae) (fun k_ => some k_ = (.slice aM aa.length aN : Value).ownBlock) rfl rfl ?aP (fun k_ hk_ => ((Kd.R_mono (ok' := fun k_ => ((fun k_ => k_ ≠ ae)) k_ ∧ some k_ ≠ (u3 : Value).ownBlock) (Kd.R_types (Kd.R_apart' (ad.out) (Kd.S_typed ai.out) (by decide)) ab.out (by decide)) (fun k_ hk => ⟨hk.2, hk.1.2⟩))).1 k_ hk_.symm) ?aF ?aO ?aB ?aS ?aL ?_; (case aP => exact k63_mkM _ _ _ (⟨af, aa⟩ : S63) (Kd.R_mono (Kd.R_tight rfl (Kd.R_mono (ok' := fun k_ => ((fun k_ => k_ ≠ ae)) k_ ∧ some k_ ≠ (u3 : Value).ownBlock) (Kd.R_types (Kd.R_apart' (ad.out) (Kd.S_typed ai.out) (by decide)) ab.out (by decide)) (fun k_ hk => ⟨hk.2, hk.1.2⟩))) (fun _ h_ => h_))); (case aB => exact (eTx HB.out)); (case aF => exact (fun k_ hk => Kd.freshB (g := ae) (o := .cells #[.string af, .slice aM aa.length aN] 63 (0, 0)) (bT ab.out) k_ hk)); (case aO => exact (by (with_reducible repeat (first | apply Kd.S_alloc | apply Kd.S_drewN | apply Kd.S_drew)); exact Kd.S_mono ai.out (fun k_ hk => ⟨hk.2, fun e_ => hk.1 e_⟩))); (case aS => exact (below_size (eTx HB.out))); (case aL => have := LMc25.out; omega); intro bK w27 ho hb hg hat; rw [← Ny114.out] at ho; replace ab := am (blk_grown (g := ae) (o := .cells #[.string af, .slice aM aa.length aN] 63 (0, 0)) (bT ab.out) hg (Kd.S_away ai.out (fun _ hk => hk.2))); replace HB := am (hb); have a8 := am (ho); clear ai ad ho hb hg hat))
         go_roundg k3
         case measure => have := HK1.out; have := HJ1.out; have := HK3.out; omega
         case rel => exact ⟨(a7), (wrap64 (ac + 1)), rfG, H', ⟨by have := HK1.out; have := HJ1.out; have := HK3.out; omega⟩, ⟨by (with_reducible repeat (first | apply Kd.S_alloc | apply Kd.S_drewN | apply Kd.S_drew)); exact Kd.S_mono a8.out (fun _ hk => trivial)⟩, ⟨eTx HB.out⟩⟩
     ·obtain rfl := smI H
      go_wp2
      go_ret
      exact ⟨_, rfF, by (with_reducible repeat (first | apply Kd.S_alloc | apply Kd.S_drewN | apply Kd.S_drew)); exact ai.out, eTx HB.out⟩

end Go.Proofs.YtknmfmedklfepaaGreatDoor.P
