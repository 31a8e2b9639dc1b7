-- half the indentation
import Derived.Test.YtknmfmedklfepaaDoorSqz
import Derived.Test.YtknmfmedklfepaaDoorP0
import Derived.Test.YtknmfmedklfepaaDoorP1
import Derived.Test.YtknmfmedklfepaaDoorP17
import Derived.Test.YtknmfmedklfepaaDoorP18
import Derived.Test.YtknmfmedklfepaaDoorP19
namespace Go.Proofs.YtknmfmedklfepaaDoor.P
open Go.RowKit Go.Proofs.YtknmfmedklfepaaDoorW.PrintWords Go.Proofs.YtknmfmedklfepaaDoorW.PrintLast Go.Proofs.YtknmfmedklfepaaDoorW.PrintMore
attribute [local go_sem] max2_int min2_int max_two min_two max_three min_three max_four min_four
set_option linter.unusedVariables false
set_option linter.unusedSimpArgs false
set_option maxHeartbeats 8000000
set_option maxRecDepth 100000

attribute [local go_sem high] eqA33
/-! ### node_order: function 31 -/
def node_order.f (k : Nat) (a0_0 : ByteArray) (a0_1 : ByteArray) (a1_0 : ByteArray) (a1_1 : ByteArray) : Option (Int) := if (a0_0.toList == a1_0.toList && (a0_1.toList == a1_1.toList)) = true then (some 0) else ((version_Cmp.f k a0_1 a1_1).bind fun bt228 => ((octet_Cmp.f a0_0 a1_0).bind fun aq => ((cmp_Or_int.f k (([aq, bt228.1] : List Int))).bind fun av => (some av))))
theorem node_order.mono : ∀ a0 a1 a2 a3 k, LeO (node_order.f k a0 a1 a2 a3) (node_order.f (k + 1) a0 a1 a2 a3) := by
 intro a0 a1 a2 a3 k
 unfold node_order.f
 repeat' first | (with_reducible first | apply cmp_Or_int.mono | apply version_Cmp.mono | apply LeO.refl | apply LeO.none | apply LeO.ite | refine LeO.bind ?_ (fun _ => ?_)) | apply cmp_Or_int.mono | apply version_Cmp.mono | exact LeO.none _ | refine LeO.ite ?_ ?_ | refine LeO.bind ?_ (fun _ => ?_)
theorem node_order.calls (k : Nat) (a0_0 : ByteArray) (a0_1 : ByteArray) (a1_0 : ByteArray) (a1_1 : ByteArray) (r : Int) (w : World) (h : node_order.f k a0_0 a0_1 a1_0 a1_1 = some r) :
  Calls Tryd.prog 31 #[.agg #[.string a0_0, .string a0_1], .agg #[.string a1_0, .string a1_1]] w fun e w' => e = .returned (.int .i64 r) ∧ Below w.heap.size w w' := by
 have hu33 := Tryd.underlying33
 have HB := am (Below.refl w.heap.size w)
 unfold node_order.f at h; have H := h; clear h
 replace H := ifP H; rcases H with ⟨c3, H⟩ | ⟨c3, H⟩
 ·have aH := c3
  (try (have bx : decide (a0_0.toList = a1_0.toList && (a0_1.toList == a1_1.toList)) = true := by simpa using c3))
  (try (have bz : (a0_0.toList == a1_0.toList && (a0_1.toList == a1_1.toList)) = true := by simpa using c3))
  clear c3
  obtain rfl := smI H
  go_enter Tryd.func31, Tryd.ntmps31
  go_wp2_with (first | ((with_reducible refine gtD 2 ?_); refine xBx 2 33 #[.string a0_0, .string a0_1] ?_; intro aw hg w4 hbox hb; have af := am (hbox); have aM := am ((gTx hg HB.out)); have aN := am ((gTx hg HB.out)); replace HB := am (sTx HB.out hb); clear hb hbox hg) | ((with_reducible refine gtD 3 ?_); refine xBx 3 33 #[.string a1_0, .string a1_1] ?_; intro ax hg w5 hbox hb; have aj := am (hbox); have aO := am ((gTx hg HB.out)); have aP := am ((gTx hg HB.out)); have ar := am ((nT af.out hg)); have au := am ((mT af.out hg)); replace af := am (bB af.out hb); replace HB := am (sTx HB.out hb); clear hb hbox hg; have bV := ar.out; have bW := au.out; obtain ⟨bC, bD, bE, bF⟩ := bxB af; obtain ⟨bG, bH, bI, bJ⟩ := bxB aj))
  go_ret
  exact ⟨rfF, eTx HB.out⟩
 ·have aH := Bool.eq_false_iff.mpr c3
  (try (have bx : decide (a0_0.toList = a1_0.toList && (a0_1.toList == a1_1.toList)) = false := by simpa using c3))
  (try (have bz : (a0_0.toList == a1_0.toList && (a0_1.toList == a1_1.toList)) = false := by simpa using c3))
  (try (have bX : ¬ (a0_0.toList = a1_0.toList && (a0_1.toList == a1_1.toList)) := by simpa using c3))
  clear c3
  replace H := bnd H; obtain ⟨⟨ay, bK⟩, A9, H⟩ := H
  (try dsimp only at H)
  replace H := bnd H; obtain ⟨aq, A10, H⟩ := H
  obtain ⟨aK, az⟩ : ∃ y_ : List Int, y_ = (([aq, ay] : List Int)) := ⟨_, rfl⟩
  replace H : ((cmp_Or_int.f k aK).bind fun av => (some av)) = some r := by first | (rw [az]; with_reducible exact H) | (have H2_ := (Option.bind_some _ _).symm.trans H; rw [az]; with_reducible exact H2_) | (have H2_ := (Option.bind_some _ _).symm.trans H; with_reducible exact H2_) | with_reducible exact H | (rw [az]; exact H) | exact H
  have Ny231 := Aside0.mk az
  clear az
  replace H := bnd H; obtain ⟨av, A11, H⟩ := H
  obtain rfl := smI H
  go_enter Tryd.func31, Tryd.ntmps31
  go_wp2_with (first | ((with_reducible refine gtD 2 ?_); refine xBx 2 33 #[.string a0_0, .string a0_1] ?_; intro aw hg w12 hbox hb; have af := am (hbox); have aM := am ((gTx hg HB.out)); have aN := am ((gTx hg HB.out)); replace HB := am (sTx HB.out hb); clear hb hbox hg) | ((with_reducible refine gtD 3 ?_); refine xBx 3 33 #[.string a1_0, .string a1_1] ?_; intro ax hg w13 hbox hb; have aj := am (hbox); have aO := am ((gTx hg HB.out)); have aP := am ((gTx hg HB.out)); have ar := am ((nT af.out hg)); have au := am ((mT af.out hg)); replace af := am (bB af.out hb); replace HB := am (sTx HB.out hb); clear hb hbox hg; have bP := ar.out; have bQ := au.out; obtain ⟨aV, aW, aX, aY⟩ := bxB af; obtain ⟨aZ, a4, a5, a6⟩ := bxB aj) | ((with_reducible refine gtC 24 ?_); refine xCb 15 Tryd.func24 (version_Cmp.calls k a0_1 a1_1 ay bK _ A9.out) fun w17 hb => ?_; replace af := am (bB af.out hb); replace aj := am (bB aj.out hb); replace HB := am (sTx HB.out hb); obtain ⟨a7, a8, a9, a_⟩ := bxB af; obtain ⟨bb, bc, be, bf⟩ := bxB aj) | ((with_reducible refine gtC 46 ?_); refine xCz 22 Tryd.func46 (octet_Cmp.calls a0_0 a1_0 aq _ A10.out) fun nd => ?_) | ((with_reducible refine gtD 24 ?_); refine Kd.R_lit (Kd.int .i64) _ 3 ?hg (N := 24) ?hd (xs := ([aq, ay] : List Int)) (inner := [.int .i64 aq, .int .i64 ay]) (ok := fun _ => True) (okp := fun _ => True) ?hr ?hp (fun _ hk => hk) trivial (Below.refl _ _) (Nat.le_refl _) (by simp) ?_; (case hd => rfl); (case hg => rfl); (case hr => first | (go_simp; done) | (go_simp; rfl)); (case hp => exact (Reps.one (show Kd.M (Kd.int .i64) _ _ _ aq [.int .i64 aq] from rfl) (Reps.one (show Kd.M (Kd.int .i64) _ _ _ ay [.int .i64 ay] from rfl) (Reps.none _ _)))); intro bZ w20 ho21 hb hg_ hnew_; clear hg_ hnew_; (first | rw [← Ny231.out] at ho21 | (simp only [Int.reduceToNat] at ho21; rw [← Ny231.out] at ho21)); have aE := am (Kd.R_lower ho21 (below_size (eTx HB.out))); replace af := am (bB af.out hb); replace aj := am (bB aj.out hb); replace HB := am (sTx HB.out hb); clear hb ho21; obtain ⟨bL, bM, bN⟩ := Kd.R_slice aE.out; subst bN) | ((with_reducible refine gtC 35 ?_); refine xCz 25 Tryd.func35 (cmp_Or_int.calls k _ _ aK av _ (cW (Kd.R_reads' aE.out).2.2) ((Kd.R_reads' aE.out).2.1) A11.out) fun nd => ?_))
  go_ret
  exact ⟨rfF, eTx HB.out⟩

/-! ### node_Check: function 22 -/
def node_Check.l0 : Nat → List (S33) → List (S33) → Int → Int → Option (Int)
 | 0, _, _, _, _ => none
 | k + 1, x0, x5, x6, x7 => if x7 < x6 then (if 0 ≤ x7 then (if x7 < (x5.length : Int) then ((node_May.f k ((rd_T33 x5 x7).f0) ((rd_T33 x5 x7).f1)).bind fun aI => (if aI = true then (if x7 > 0 then (if 0 ≤ (wrap64 (x7 - 1)) then (if (wrap64 (x7 - 1)) < (x0.length : Int) then ((node_order.f k ((rd_T33 x0 (wrap64 (x7 - 1))).f0) ((rd_T33 x0 (wrap64 (x7 - 1))).f1) ((rd_T33 x5 x7).f0) ((rd_T33 x5 x7).f1)).bind fun ap => (if ap ≥ 0 then (some 1) else (node_Check.l0 k x0 x5 x6 (wrap64 (x7 + 1))))) else (none)) else (none)) else (node_Check.l0 k x0 x5 x6 (wrap64 (x7 + 1)))) else (some 1))) else (none)) else (none)) else (some 0)
def node_Check.f (k : Nat) (l0 : List (S33)) : Option (Int) := node_Check.l0 k l0 l0 (l0.length : Int) 0
theorem node_Check.mono_l : ∀ k, (∀ y0 y1 y2 y3, LeO (node_Check.l0 k y0 y1 y2 y3) (node_Check.l0 (k + 1) y0 y1 y2 y3))
 | 0 => fun _ _ _ _ r h => by simp [node_Check.l0] at h
 | k + 1 => by
  have ih0 := node_Check.mono_l k
  ·intro y0 y1 y2 y3
   unfold node_Check.l0
   repeat' first | (with_reducible first | apply ih0 | apply node_May.mono | apply node_order.mono | apply LeO.refl | apply LeO.none | apply LeO.ite | refine LeO.bind ?_ (fun _ => ?_)) | apply ih0 | apply node_May.mono | apply node_order.mono | exact LeO.none _ | refine LeO.ite ?_ ?_ | refine LeO.bind ?_ (fun _ => ?_)
theorem node_Check.mono : ∀ a0 k, LeO (node_Check.f k a0) (node_Check.f (k + 1) a0) := by
 intro a0 k
 have ih0 := node_Check.mono_l k
 unfold node_Check.f
 repeat' first | (with_reducible first | apply ih0 | apply node_May.mono | apply node_order.mono | apply LeO.refl | apply LeO.none | apply LeO.ite | refine LeO.bind ?_ (fun _ => ?_)) | apply ih0 | apply node_May.mono | apply node_order.mono | exact LeO.none _ | refine LeO.ite ?_ ?_ | refine LeO.bind ?_ (fun _ => ?_)
def node_Check.T4 : Bool × List (List Nat × List Nat) := (true, [([], []), ([0], [0]), ([1], [1]), ([2, 1], [2]), ([3], [3]), ([4, 3], [3, 4]), ([5, 3, 3], [3, 5]), ([6], [6]), ([6], [6]), ([8, 6], [6, 8]), ([7, 9, 6], [6, 7, 9]), ([10, 6], [6, 10]), ([6], [6]), ([11, 12, 6, 6], [6, 11, 12]), ([13, 6], [6, 13]), ([6, 14, 3], [3, 6, 14]), ([3, 15], [3, 15])])
def node_Check.B4 : List Nat := [0, 1, 3, 7, 15, 31, 63, 127, 127, 383, 1023, 2047, 127, 8191, 16383, 32767, 65535]
theorem node_Check.tab4 : rtab .any (opsOf Tryd.f22 4) = node_Check.T4 := by kernel_rfl
theorem node_Check.bits4 : waitsOk node_Check.T4.2 node_Check.B4 = true := by kernel_rfl
theorem node_Check.calls (k : Nat) (A0 : Option Addr) (c0 : Nat) (l0 : List (S33)) (r : Int) (w : World) (hr0 : Kd.C k33 w A0 l0.length l0) (hc0 : l0.length ≤ c0) (h : node_Check.f k l0 = some r) :
  Calls Tryd.prog 22 #[.slice A0 l0.length c0] w fun e w' => e = .returned (.int .i64 r) ∧ Below w.heap.size w w' := by
 have hu33 := Tryd.underlying33
 have HR0 := Aside0.mk hr0
 have HC0 := Aside0.mk hc0
 clear hr0 hc0
 have HB := am (Below.refl w.heap.size w)
 unfold node_Check.f at h; have H := h; clear h
 have H' := Aside0.mk H
 clear H
 go_enter Tryd.func22, Tryd.ntmps22
 go_wp2
 go_loopg [7] k (fun kq v7 w' => ∃ (aa : Int), v7 = .int .i64 aa ∧ Aside0 (node_Check.l0 kq l0 l0 (l0.length : Int) aa = some r) ∧ Aside0 (kq ≤ k) ∧ Aside0 (Below w.heap.size w w'))
 case atStart => exact ⟨(0), rfG, H', ⟨Nat.le_refl _⟩, ⟨eTx HB.out⟩⟩
 case round =>
  clear H'
  obtain ⟨aa, rfl, HA, HK1, HB⟩ := hrel
  cases gk with
  | zero => exact absurd HA.out (by simp [node_Check.l0])
  | succ k1 =>
   have H := HA.out
   clear HA
   simp only [node_Check.l0] at H
   replace H := ifP H; rcases H with ⟨c2, H⟩ | ⟨c2, H⟩
   ·have aL := decide_eq_true c2
    clear c2
    replace H := ifN H; obtain ⟨c3, H⟩ := H
    have aH := decide_eq_true c3
    clear c3
    replace H := ifN H; obtain ⟨c4, H⟩ := H
    have b0 := decide_eq_true c4
    clear c4
    replace H := bnd H; obtain ⟨aI, A5, H⟩ := H
    replace H := ifB H; rcases H with ⟨rfl, H⟩ | ⟨rfl, H⟩
    ·replace H := ifP H; rcases H with ⟨c7, H⟩ | ⟨c7, H⟩
     ·have aQ : decide (0 < aa) = true := decide_eq_true c7
      clear c7
      obtain ⟨ji8, aA⟩ : ∃ j_ : Int, (wrap64 (aa - 1)) = j_ := ⟨_, rfl⟩
      replace H : (if 0 ≤ (ji8) then (if (ji8) < (l0.length : Int) then ((node_order.f k1 ((rd_T33 l0 (ji8)).f0) ((rd_T33 l0 (ji8)).f1) ((rd_T33 l0 aa).f0) ((rd_T33 l0 aa).f1)).bind fun ap => (if ap ≥ 0 then (some 1) else (node_Check.l0 k1 l0 l0 (l0.length : Int) (wrap64 (aa + 1))))) else (none)) else (none)) = some r := by first | (rw [aA] at H; exact H) | (simp only [aA] at H ⊢; exact H)
      (try rw [aA] at A5)
      have bR : (IntKind.i64.wrap (aa - 1)) = ji8 := (i64_w _).trans aA
      replace H := ifN H; obtain ⟨c9, H⟩ := H
      have aR := decide_eq_true c9
      clear c9
      replace H := ifN H; obtain ⟨c10, H⟩ := H
      have bS := decide_eq_true c10
      clear c10
      replace H := bnd H; obtain ⟨ap, A11, H⟩ := H
      replace H := ifP H; rcases H with ⟨c12, H⟩ | ⟨c12, H⟩
      ·have aU : decide (0 ≤ ap) = true := decide_eq_true c12
       clear c12
       obtain rfl := smI H
       have p235 : 0 ≤ (aa : Int) := of_decide_eq_true rfA
       have q235 : aa < (l0.length : Int) := of_decide_eq_true rfA
       obtain ⟨ad235, e235, ad, ae⟩ := at_T33 HR0.out aa p235 q235
       cases e235
       replace ad := (HB.out.cell (World.block_lt_of_cell? w _ ad)).trans ad
       replace ae := (HB.out.cell (World.block_lt_of_cell? w _ ae)).trans ae
       replace p235 := eq_true p235
       replace q235 := eq_true q235
       try go_wp2_with (first | ((with_reducible refine gtD 4 ?_); refine xBx 4 33 #[.string (⟨#[]⟩ : ByteArray), .string (⟨#[]⟩ : ByteArray)] ?_; intro ac hg w13 hbox hb; have ab := am (hbox); have aF := am ((gTx hg HB.out)); have aG := am ((gTx hg HB.out)); replace HB := am (sTx HB.out hb); clear hb hbox hg; obtain ⟨bg, bh, bi, bj⟩ := bxB ab))
       obtain ⟨w15, hW_⟩ : ∃ W_, ((w13.setCell ⟨ac, 0, none⟩ (.string ((rd_T33 l0 aa).f0))).setCell ⟨ac, 1, none⟩ (.string ((rd_T33 l0 aa).f1))) = W_ := ⟨_, rfl⟩
       have n0_ : Aside0 (w15.heap[ac]? = some (.cells #[.string ((rd_T33 l0 aa).f0), .string ((rd_T33 l0 aa).f1)] 33 (0, 0))) := ⟨by rw [← hW_]; exact kBk⟩
       have n1_ : Aside0 (Below w.heap.size w w15) := ⟨by rw [← hW_]; exact eTx HB.out⟩
       rw [hW_]
       clear hW_
       have ab := n0_
       have HB := n1_
       clear n0_ n1_
       replace ab := am (blk_drew ab.out)
       replace HB := am (below_drew1 HB.out)
       have p238 : 0 ≤ ((ji8) : Int) := of_decide_eq_true rfA
       have q238 : (ji8) < (l0.length : Int) := of_decide_eq_true rfA
       obtain ⟨ad238, e238, ah, ai⟩ := at_T33 HR0.out (ji8) p238 q238
       have hw238_1 := ai
       have hw238_0 := ah
       obtain rfl : ad235 = ad238 := (by injection e238)
       replace ah := (HB.out.cell (World.block_lt_of_cell? w _ ah)).trans ah
       replace ai := (HB.out.cell (World.block_lt_of_cell? w _ ai)).trans ai
       replace p238 := eq_true p238
       replace q238 := eq_true q238
       refine start_ (n := 17) (S := fun w' => w'.cell? ⟨ac, 0, none⟩ = some (.string ((rd_T33 l0 aa).f0)) ∧ w'.cell? ⟨ac, 1, none⟩ = some (.string ((rd_T33 l0 aa).f1)) ∧ w'.cell? (ad235.add (((ji8)).toNat * 2)) = some (.string ((rd_T33 l0 (ji8)).f0)) ∧ w'.cell? ⟨(ad235.add (((ji8)).toNat * 2)).block, (ad235.add (((ji8)).toNat * 2)).off + 1, none⟩ = some (.string ((rd_T33 l0 (ji8)).f1))) (ds := []) (bA 17 0) rfK rfl rfK ⟨cT ab 0, cT ab 1, ((HB.out.cell (World.block_lt_of_cell? w _ hw238_0)).trans hw238_0), ((HB.out.cell (World.block_lt_of_cell? w _ hw238_1)).trans hw238_1)⟩ (fun hHeld => ?_); refine with_tabW node_Check.tab4 node_Check.bits4 (fun HT_ HW_ => ?_)
       generalize w15.drew = w16 at ab HB ah ai hHeld ⊢
       refine tT 0 12 (bA 17 1) HT_.out HW_.out hHeld ?_ (hy := by rintro w' ⟨s0, s1, s2, s3⟩; go_simp; with_reducible rfl)
       refine oT 1 (bA 17 3) HT_.out fun K hK => ?_
       refine gS Tryd.func30 #[.agg #[.string ((rd_T33 l0 aa).f0), .string ((rd_T33 l0 aa).f1)]] ?_
       with_reducible refine (node_May.calls k1 ((rd_T33 l0 aa).f0) ((rd_T33 l0 aa).f1) true _ A5.out).mono ?_
       rintro e w17 ⟨rfl, hb⟩
       refine ⟨_, rfl, ?_⟩
       replace ab := am (bB ab.out hb)
       replace HB := am (sTx HB.out hb)
       refine hK.out _ _ ⟨cT ab 0, cT ab 1, ((HB.out.cell (World.block_lt_of_cell? w _ hw238_0)).trans hw238_0), ((HB.out.cell (World.block_lt_of_cell? w _ hw238_1)).trans hw238_1)⟩ (fun hHeld => ?_)
       clear hK K
       refine mN 13 ?_
       refine pT 2 14 (bA 17 7) HT_.out ?_
       refine pT 3 15 (bA 17 15) HT_.out ?_
       refine pT 4 16 (bA 17 31) HT_.out ?_
       refine pT 5 17 (bA 17 63) HT_.out ?_
       refine pT 6 18 (bA 17 127) HT_.out ?_
       refine pT 7 19 (bA 17 255) HT_.out ?_
       refine pT 8 20 (bA 17 511) HT_.out ?_
       refine pT 9 21 (bA 17 1023) HT_.out ?_
       refine pT 10 22 (bA 17 2047) HT_.out ?_
       refine tT 11 23 (bA 17 4095) HT_.out HW_.out hHeld ?_ (hy := by rintro w' ⟨s0, s1, s2, s3⟩; go_simp; with_reducible rfl)
       refine tT 12 24 (bA 17 8191) HT_.out HW_.out hHeld ?_ (hy := by rintro w' ⟨s0, s1, s2, s3⟩; go_simp; with_reducible rfl)
       refine oT 13 (bA 17 16383) HT_.out fun K hK => ?_
       refine goes_ Tryd.func31 rfK rfl #[.agg #[.string ((rd_T33 l0 (ji8)).f0), .string ((rd_T33 l0 (ji8)).f1)], .agg #[.string ((rd_T33 l0 aa).f0), .string ((rd_T33 l0 aa).f1)]] (by rfl) rfl rfl (by (try simp only [List.map_toArray, List.map_cons, List.map_nil]); first | done | (simp only [aA]; rfl) | rfl | (simp only [List.length_drop, List.length_take]; rfl)) ?_
       with_reducible refine (node_order.calls k1 ((rd_T33 l0 (ji8)).f0) ((rd_T33 l0 (ji8)).f1) ((rd_T33 l0 aa).f0) ((rd_T33 l0 aa).f1) ap _ A11.out).mono ?_
       rintro e w18 ⟨rfl, hb⟩
       refine ⟨_, rfl, ?_⟩
       replace ab := am (bB ab.out hb)
       replace HB := am (sTx HB.out hb)
       refine hK.out _ _ ⟨cT ab 0, cT ab 1, ((HB.out.cell (World.block_lt_of_cell? w _ hw238_0)).trans hw238_0), ((HB.out.cell (World.block_lt_of_cell? w _ hw238_1)).trans hw238_1)⟩ (fun hHeld => ?_)
       clear hK K
       refine mN 25 ?_
       refine pT 14 26 (bA 17 32767) HT_.out ?_
       refine pT 15 27 (bA 17 65535) HT_.out ?_
       refine pT 16 28 (bA 17 131071) HT_.out ?_
       refine done_ (done_of HT_.out rfK) ?_
       try go_wp2
       go_ret
       exact ⟨by first | rfl | (simp [errW_none, errW_some] <;> rfl) | (simp only [← aA]; first | rfl | (simp [errW_none, errW_some] <;> rfl)) | (simp [*, errW_none, errW_some] <;> rfl), eTx HB.out⟩
      ·have aU : decide (0 ≤ ap) = false := decide_eq_false c12
       clear c12
       have H' := Aside0.mk H
       clear H
       have p235 : 0 ≤ (aa : Int) := of_decide_eq_true rfA
       have q235 : aa < (l0.length : Int) := of_decide_eq_true rfA
       obtain ⟨ad235, e235, ad, ae⟩ := at_T33 HR0.out aa p235 q235
       cases e235
       replace ad := (HB.out.cell (World.block_lt_of_cell? w _ ad)).trans ad
       replace ae := (HB.out.cell (World.block_lt_of_cell? w _ ae)).trans ae
       replace p235 := eq_true p235
       replace q235 := eq_true q235
       try go_wp2_with (first | ((with_reducible refine gtD 4 ?_); refine xBx 4 33 #[.string (⟨#[]⟩ : ByteArray), .string (⟨#[]⟩ : ByteArray)] ?_; intro ac hg w19 hbox hb; have ab := am (hbox); have aF := am ((gTx hg HB.out)); have aG := am ((gTx hg HB.out)); replace HB := am (sTx HB.out hb); clear hb hbox hg; obtain ⟨bk, bl, bm, bo⟩ := bxB ab))
       obtain ⟨w21, hW_⟩ : ∃ W_, ((w19.setCell ⟨ac, 0, none⟩ (.string ((rd_T33 l0 aa).f0))).setCell ⟨ac, 1, none⟩ (.string ((rd_T33 l0 aa).f1))) = W_ := ⟨_, rfl⟩
       have n0_ : Aside0 (w21.heap[ac]? = some (.cells #[.string ((rd_T33 l0 aa).f0), .string ((rd_T33 l0 aa).f1)] 33 (0, 0))) := ⟨by rw [← hW_]; exact kBk⟩
       have n1_ : Aside0 (Below w.heap.size w w21) := ⟨by rw [← hW_]; exact eTx HB.out⟩
       rw [hW_]
       clear hW_
       have ab := n0_
       have HB := n1_
       clear n0_ n1_
       replace ab := am (blk_drew ab.out)
       replace HB := am (below_drew1 HB.out)
       have p238 : 0 ≤ ((ji8) : Int) := of_decide_eq_true rfA
       have q238 : (ji8) < (l0.length : Int) := of_decide_eq_true rfA
       obtain ⟨ad238, e238, ah, ai⟩ := at_T33 HR0.out (ji8) p238 q238
       have hw238_1 := ai
       have hw238_0 := ah
       obtain rfl : ad235 = ad238 := (by injection e238)
       replace ah := (HB.out.cell (World.block_lt_of_cell? w _ ah)).trans ah
       replace ai := (HB.out.cell (World.block_lt_of_cell? w _ ai)).trans ai
       replace p238 := eq_true p238
       replace q238 := eq_true q238
       refine start_ (n := 17) (S := fun w' => w'.cell? ⟨ac, 0, none⟩ = some (.string ((rd_T33 l0 aa).f0)) ∧ w'.cell? ⟨ac, 1, none⟩ = some (.string ((rd_T33 l0 aa).f1)) ∧ w'.cell? (ad235.add (((ji8)).toNat * 2)) = some (.string ((rd_T33 l0 (ji8)).f0)) ∧ w'.cell? ⟨(ad235.add (((ji8)).toNat * 2)).block, (ad235.add (((ji8)).toNat * 2)).off + 1, none⟩ = some (.string ((rd_T33 l0 (ji8)).f1))) (ds := []) (bA 17 0) rfK rfl rfK ⟨cT ab 0, cT ab 1, ((HB.out.cell (World.block_lt_of_cell? w _ hw238_0)).trans hw238_0), ((HB.out.cell (World.block_lt_of_cell? w _ hw238_1)).trans hw238_1)⟩ (fun hHeld => ?_); refine with_tabW node_Check.tab4 node_Check.bits4 (fun HT_ HW_ => ?_)
       generalize w21.drew = w22 at ab HB ah ai hHeld ⊢
       refine tT 0 12 (bA 17 1) HT_.out HW_.out hHeld ?_ (hy := by rintro w' ⟨s0, s1, s2, s3⟩; go_simp; with_reducible rfl)
       refine oT 1 (bA 17 3) HT_.out fun K hK => ?_
       refine gS Tryd.func30 #[.agg #[.string ((rd_T33 l0 aa).f0), .string ((rd_T33 l0 aa).f1)]] ?_
       with_reducible refine (node_May.calls k1 ((rd_T33 l0 aa).f0) ((rd_T33 l0 aa).f1) true _ A5.out).mono ?_
       rintro e w23 ⟨rfl, hb⟩
       refine ⟨_, rfl, ?_⟩
       replace ab := am (bB ab.out hb)
       replace HB := am (sTx HB.out hb)
       refine hK.out _ _ ⟨cT ab 0, cT ab 1, ((HB.out.cell (World.block_lt_of_cell? w _ hw238_0)).trans hw238_0), ((HB.out.cell (World.block_lt_of_cell? w _ hw238_1)).trans hw238_1)⟩ (fun hHeld => ?_)
       clear hK K
       refine mN 13 ?_
       refine pT 2 14 (bA 17 7) HT_.out ?_
       refine pT 3 15 (bA 17 15) HT_.out ?_
       refine pT 4 16 (bA 17 31) HT_.out ?_
       refine pT 5 17 (bA 17 63) HT_.out ?_
       refine pT 6 18 (bA 17 127) HT_.out ?_
       refine pT 7 19 (bA 17 255) HT_.out ?_
       refine pT 8 20 (bA 17 511) HT_.out ?_
       refine pT 9 21 (bA 17 1023) HT_.out ?_
       refine pT 10 22 (bA 17 2047) HT_.out ?_
       refine tT 11 23 (bA 17 4095) HT_.out HW_.out hHeld ?_ (hy := by rintro w' ⟨s0, s1, s2, s3⟩; go_simp; with_reducible rfl)
       refine tT 12 24 (bA 17 8191) HT_.out HW_.out hHeld ?_ (hy := by rintro w' ⟨s0, s1, s2, s3⟩; go_simp; with_reducible rfl)
       refine oT 13 (bA 17 16383) HT_.out fun K hK => ?_
       refine goes_ Tryd.func31 rfK rfl #[.agg #[.string ((rd_T33 l0 (ji8)).f0), .string ((rd_T33 l0 (ji8)).f1)], .agg #[.string ((rd_T33 l0 aa).f0), .string ((rd_T33 l0 aa).f1)]] (by rfl) rfl rfl (by (try simp only [List.map_toArray, List.map_cons, List.map_nil]); first | done | (simp only [aA]; rfl) | rfl | (simp only [List.length_drop, List.length_take]; rfl)) ?_
       with_reducible refine (node_order.calls k1 ((rd_T33 l0 (ji8)).f0) ((rd_T33 l0 (ji8)).f1) ((rd_T33 l0 aa).f0) ((rd_T33 l0 aa).f1) ap _ A11.out).mono ?_
       rintro e w24 ⟨rfl, hb⟩
       refine ⟨_, rfl, ?_⟩
       replace ab := am (bB ab.out hb)
       replace HB := am (sTx HB.out hb)
       refine hK.out _ _ ⟨cT ab 0, cT ab 1, ((HB.out.cell (World.block_lt_of_cell? w _ hw238_0)).trans hw238_0), ((HB.out.cell (World.block_lt_of_cell? w _ hw238_1)).trans hw238_1)⟩ (fun hHeld => ?_)
       clear hK K
       refine mN 25 ?_
       refine pT 14 26 (bA 17 32767) HT_.out ?_
       refine pT 15 27 (bA 17 65535) HT_.out ?_
       refine pT 16 28 (bA 17 131071) HT_.out ?_
       refine done_ (done_of HT_.out rfK) ?_
       try go_wp2
       go_roundg k1
       case measure => have := HK1.out; omega
       case rel => exact ⟨(wrap64 (aa + 1)), rfG, H', ⟨by have := HK1.out; omega⟩, ⟨eTx HB.out⟩⟩
     ·have aQ : decide (0 < aa) = false := decide_eq_false c7
      clear c7
      have H' := Aside0.mk H
      clear H
      have p235 : 0 ≤ (aa : Int) := of_decide_eq_true rfA
      have q235 : aa < (l0.length : Int) := of_decide_eq_true rfA
      obtain ⟨ad235, e235, ad, ae⟩ := at_T33 HR0.out aa p235 q235
      cases e235
      replace ad := (HB.out.cell (World.block_lt_of_cell? w _ ad)).trans ad
      replace ae := (HB.out.cell (World.block_lt_of_cell? w _ ae)).trans ae
      replace p235 := eq_true p235
      replace q235 := eq_true q235
      try go_wp2_with (first | ((with_reducible refine gtD 4 ?_); refine xBx 4 33 #[.string (⟨#[]⟩ : ByteArray), .string (⟨#[]⟩ : ByteArray)] ?_; intro ac hg w25 hbox hb; have ab := am (hbox); have aF := am ((gTx hg HB.out)); have aG := am ((gTx hg HB.out)); replace HB := am (sTx HB.out hb); clear hb hbox hg; obtain ⟨bp, bq, br, bs⟩ := bxB ab))
      obtain ⟨w27, hW_⟩ : ∃ W_, ((w25.setCell ⟨ac, 0, none⟩ (.string ((rd_T33 l0 aa).f0))).setCell ⟨ac, 1, none⟩ (.string ((rd_T33 l0 aa).f1))) = W_ := ⟨_, rfl⟩
      have n0_ : Aside0 (w27.heap[ac]? = some (.cells #[.string ((rd_T33 l0 aa).f0), .string ((rd_T33 l0 aa).f1)] 33 (0, 0))) := ⟨by rw [← hW_]; exact kBk⟩
      have n1_ : Aside0 (Below w.heap.size w w27) := ⟨by rw [← hW_]; exact eTx HB.out⟩
      rw [hW_]
      clear hW_
      have ab := n0_
      have HB := n1_
      clear n0_ n1_
      replace ab := am (blk_drew ab.out)
      replace HB := am (below_drew1 HB.out)
      refine start_ (n := 17) (S := fun w' => w'.cell? ⟨ac, 0, none⟩ = some (.string ((rd_T33 l0 aa).f0)) ∧ w'.cell? ⟨ac, 1, none⟩ = some (.string ((rd_T33 l0 aa).f1))) (ds := []) (bA 17 0) rfK rfl rfK ⟨cT ab 0, cT ab 1⟩ (fun hHeld => ?_); refine with_tabW node_Check.tab4 node_Check.bits4 (fun HT_ HW_ => ?_)
      generalize w27.drew = w28 at ab HB hHeld ⊢
      refine tT 0 12 (bA 17 1) HT_.out HW_.out hHeld ?_ (hy := by rintro w' ⟨s0, s1⟩; go_simp; with_reducible rfl)
      refine oT 1 (bA 17 3) HT_.out fun K hK => ?_
      refine gS Tryd.func30 #[.agg #[.string ((rd_T33 l0 aa).f0), .string ((rd_T33 l0 aa).f1)]] ?_
      with_reducible refine (node_May.calls k1 ((rd_T33 l0 aa).f0) ((rd_T33 l0 aa).f1) true _ A5.out).mono ?_
      rintro e w29 ⟨rfl, hb⟩
      refine ⟨_, rfl, ?_⟩
      replace ab := am (bB ab.out hb)
      replace HB := am (sTx HB.out hb)
      refine hK.out _ _ ⟨cT ab 0, cT ab 1⟩ (fun hHeld => ?_)
      clear hK K
      refine mN 13 ?_
      refine pT 2 14 (bA 17 7) HT_.out ?_
      refine pT 3 15 (bA 17 15) HT_.out ?_
      refine pT 4 16 (bA 17 31) HT_.out ?_
      refine pT 5 17 (bA 17 63) HT_.out ?_
      refine pT 6 18 (bA 17 127) HT_.out ?_
      refine pU 7 19 (bA 17 255) HT_.out ?_
      refine pU 8 20 (bA 17 511) HT_.out ?_
      refine pU 9 21 (bA 17 1023) HT_.out ?_
      refine pU 10 22 (bA 17 2047) HT_.out ?_
      refine pU 11 23 (bA 17 4095) HT_.out ?_
      refine pU 12 24 (bA 17 8191) HT_.out ?_
      refine pU 13 25 (bA 17 16383) HT_.out ?_
      refine pU 14 26 (bA 17 32767) HT_.out ?_
      refine pT 15 27 (bA 17 65535) HT_.out ?_
      refine pT 16 28 (bA 17 131071) HT_.out ?_
      refine done_ (done_of HT_.out rfK) ?_
      try go_wp2
      go_roundg k1
      case measure => have := HK1.out; omega
      case rel => exact ⟨(wrap64 (aa + 1)), rfG, H', ⟨by have := HK1.out; omega⟩, ⟨eTx HB.out⟩⟩
    ·obtain rfl := smI H
     have p235 : 0 ≤ (aa : Int) := of_decide_eq_true rfA
     have q235 : aa < (l0.length : Int) := of_decide_eq_true rfA
     obtain ⟨ad235, e235, ad, ae⟩ := at_T33 HR0.out aa p235 q235
     cases e235
     replace ad := (HB.out.cell (World.block_lt_of_cell? w _ ad)).trans ad
     replace ae := (HB.out.cell (World.block_lt_of_cell? w _ ae)).trans ae
     replace p235 := eq_true p235
     replace q235 := eq_true q235
     try go_wp2_with (first | ((with_reducible refine gtD 4 ?_); refine xBx 4 33 #[.string (⟨#[]⟩ : ByteArray), .string (⟨#[]⟩ : ByteArray)] ?_; intro ac hg w30 hbox hb; have ab := am (hbox); have aF := am ((gTx hg HB.out)); have aG := am ((gTx hg HB.out)); replace HB := am (sTx HB.out hb); clear hb hbox hg; obtain ⟨bt, bu, bv, bw⟩ := bxB ab))
     obtain ⟨w32, hW_⟩ : ∃ W_, ((w30.setCell ⟨ac, 0, none⟩ (.string ((rd_T33 l0 aa).f0))).setCell ⟨ac, 1, none⟩ (.string ((rd_T33 l0 aa).f1))) = W_ := ⟨_, rfl⟩
     have n0_ : Aside0 (w32.heap[ac]? = some (.cells #[.string ((rd_T33 l0 aa).f0), .string ((rd_T33 l0 aa).f1)] 33 (0, 0))) := ⟨by rw [← hW_]; exact kBk⟩
     have n1_ : Aside0 (Below w.heap.size w w32) := ⟨by rw [← hW_]; exact eTx HB.out⟩
     rw [hW_]
     clear hW_
     have ab := n0_
     have HB := n1_
     clear n0_ n1_
     replace ab := am (blk_drew ab.out)
     replace HB := am (below_drew1 HB.out)
     refine start_ (n := 17) (S := fun w' => w'.cell? ⟨ac, 0, none⟩ = some (.string ((rd_T33 l0 aa).f0)) ∧ w'.cell? ⟨ac, 1, none⟩ = some (.string ((rd_T33 l0 aa).f1))) (ds := []) (bA 17 0) rfK rfl rfK ⟨cT ab 0, cT ab 1⟩ (fun hHeld => ?_); refine with_tabW node_Check.tab4 node_Check.bits4 (fun HT_ HW_ => ?_)
     generalize w32.drew = w33 at ab HB hHeld ⊢
     refine tT 0 12 (bA 17 1) HT_.out HW_.out hHeld ?_ (hy := by rintro w' ⟨s0, s1⟩; go_simp; with_reducible rfl)
     refine oT 1 (bA 17 3) HT_.out fun K hK => ?_
     refine gS Tryd.func30 #[.agg #[.string ((rd_T33 l0 aa).f0), .string ((rd_T33 l0 aa).f1)]] ?_
     with_reducible refine (node_May.calls k1 ((rd_T33 l0 aa).f0) ((rd_T33 l0 aa).f1) false _ A5.out).mono ?_
     rintro e w34 ⟨rfl, hb⟩
     refine ⟨_, rfl, ?_⟩
     replace ab := am (bB ab.out hb)
     replace HB := am (sTx HB.out hb)
     refine hK.out _ _ ⟨cT ab 0, cT ab 1⟩ (fun hHeld => ?_)
     clear hK K
     refine mN 13 ?_
     refine pT 2 14 (bA 17 7) HT_.out ?_
     refine pT 3 15 (bA 17 15) HT_.out ?_
     refine pU 4 16 (bA 17 31) HT_.out ?_
     refine pU 5 17 (bA 17 63) HT_.out ?_
     refine pU 6 18 (bA 17 127) HT_.out ?_
     refine pU 7 19 (bA 17 255) HT_.out ?_
     refine pU 8 20 (bA 17 511) HT_.out ?_
     refine pU 9 21 (bA 17 1023) HT_.out ?_
     refine pU 10 22 (bA 17 2047) HT_.out ?_
     refine pU 11 23 (bA 17 4095) HT_.out ?_
     refine pU 12 24 (bA 17 8191) HT_.out ?_
     refine pU 13 25 (bA 17 16383) HT_.out ?_
     refine pU 14 26 (bA 17 32767) HT_.out ?_
     refine pU 15 27 (bA 17 65535) HT_.out ?_
     refine pT 16 28 (bA 17 131071) HT_.out ?_
     refine done_ (done_of HT_.out rfK) ?_
     try go_wp2
     go_ret
     exact ⟨rfF, eTx HB.out⟩
   ·have aL := decide_eq_false c2
    clear c2
    obtain rfl := smI H
    go_wp2
    go_ret
    exact ⟨rfF, eTx HB.out⟩

/-! ### list_Check: function 11 -/
def list_Check.l0 : Nat → List (S33) → Int → Int → Option (Int)
 | 0, _, _, _ => none
 | k + 1, x0, x5, x6 => if x6 < x5 then (if x6 > 0 then (if 0 ≤ (wrap64 (x6 - 1)) then (if (wrap64 (x6 - 1)) < (x0.length : Int) then (if 0 ≤ x6 then (if x6 < (x0.length : Int) then (if ((rd_T33 x0 (wrap64 (x6 - 1))).f0).toList = ((rd_T33 x0 x6).f0).toList then (some 1) else (list_Check.l0 k x0 x5 (wrap64 (x6 + 1)))) else (none)) else (none)) else (none)) else (none)) else (list_Check.l0 k x0 x5 (wrap64 (x6 + 1)))) else ((node_Check.f k x0).bind fun aB => (some aB))
def list_Check.f (k : Nat) (l0 : List (S33)) : Option (Int) := list_Check.l0 k l0 (l0.length : Int) 0
theorem list_Check.mono_l : ∀ k, (∀ y0 y1 y2, LeO (list_Check.l0 k y0 y1 y2) (list_Check.l0 (k + 1) y0 y1 y2))
 | 0 => fun _ _ _ r h => by simp [list_Check.l0] at h
 | k + 1 => by
  have ih0 := list_Check.mono_l k
  ·intro y0 y1 y2
   unfold list_Check.l0
   repeat' first | (with_reducible first | apply ih0 | apply node_Check.mono | apply LeO.refl | apply LeO.none | apply LeO.ite | refine LeO.bind ?_ (fun _ => ?_)) | apply ih0 | apply node_Check.mono | exact LeO.none _ | refine LeO.ite ?_ ?_ | refine LeO.bind ?_ (fun _ => ?_)
theorem list_Check.mono : ∀ a0 k, LeO (list_Check.f k a0) (list_Check.f (k + 1) a0) := by
 intro a0 k
 have ih0 := list_Check.mono_l k
 unfold list_Check.f
 repeat' first | (with_reducible first | apply ih0 | apply node_Check.mono | apply LeO.refl | apply LeO.none | apply LeO.ite | refine LeO.bind ?_ (fun _ => ?_)) | apply ih0 | apply node_Check.mono | exact LeO.none _ | refine LeO.ite ?_ ?_ | refine LeO.bind ?_ (fun _ => ?_)
theorem list_Check.calls (k : Nat) (A0 : Option Addr) (c0 : Nat) (l0 : List (S33)) (r : Int) (w : World) (hr0 : Kd.C k33 w A0 l0.length l0) (hc0 : l0.length ≤ c0) (h : list_Check.f k l0 = some r) :
  Calls Tryd.prog 11 #[.slice A0 l0.length c0] w fun e w' => e = .returned (.int .i64 r) ∧ Below w.heap.size w w' := by
 have HR0 := Aside0.mk hr0
 have HC0 := Aside0.mk hc0
 clear hr0 hc0
 have HB := am (Below.refl w.heap.size w)
 unfold list_Check.f at h; have H := h; clear h
 have H' := Aside0.mk H
 clear H
 go_enter Tryd.func11, Tryd.ntmps11
 go_wp2
 repeat (go_quiet (fail); try go_wp2)
 go_loopg [6] k (fun kq v6 w' => ∃ (ag : Int), v6 = .int .i64 ag ∧ Aside0 (list_Check.l0 kq l0 (l0.length : Int) ag = some r) ∧ Aside0 (kq ≤ k) ∧ Aside0 (Below w.heap.size w w'))
 case atStart => exact ⟨(0), rfG, H', ⟨Nat.le_refl _⟩, ⟨eTx HB.out⟩⟩
 case round =>
  clear H'
  obtain ⟨ag, rfl, HA, HK1, HB⟩ := hrel
  cases gk with
  | zero => exact absurd HA.out (by simp [list_Check.l0])
  | succ k1 =>
   have H := HA.out
   clear HA
   simp only [list_Check.l0] at H
   replace H := ifP H; rcases H with ⟨c2, H⟩ | ⟨c2, H⟩
   ·have aL := decide_eq_true c2
    clear c2
    replace H := ifP H; rcases H with ⟨c3, H⟩ | ⟨c3, H⟩
    ·have aH : decide (0 < ag) = true := decide_eq_true c3
     clear c3
     obtain ⟨ji4, aJ⟩ : ∃ j_ : Int, (wrap64 (ag - 1)) = j_ := ⟨_, rfl⟩
     replace H : (if 0 ≤ (ji4) then (if (ji4) < (l0.length : Int) then (if 0 ≤ ag then (if ag < (l0.length : Int) then (if ((rd_T33 l0 (ji4)).f0).toList = ((rd_T33 l0 ag).f0).toList then (some 1) else (list_Check.l0 k1 l0 (l0.length : Int) (wrap64 (ag + 1)))) else (none)) else (none)) else (none)) else (none)) = some r := by first | (rw [aJ] at H; exact H) | (simp only [aJ] at H ⊢; exact H)
     have bU : (IntKind.i64.wrap (ag - 1)) = ji4 := (i64_w _).trans aJ
     replace H := ifN H; obtain ⟨c5, H⟩ := H
     have b1 := decide_eq_true c5
     clear c5
     replace H := ifN H; obtain ⟨c6, H⟩ := H
     have b2 := decide_eq_true c6
     clear c6
     replace H := ifN H; obtain ⟨c7, H⟩ := H
     have aQ := decide_eq_true c7
     clear c7
     replace H := ifN H; obtain ⟨c8, H⟩ := H
     have b3 := decide_eq_true c8
     clear c8
     replace H := ifP H; rcases H with ⟨c9, H⟩ | ⟨c9, H⟩
     ·have aR := beq_iff_eq.mpr c9
      have bO := bne_eq_false_iff_eq.mpr c9
      clear c9
      obtain rfl := smI H
      have p240 : 0 ≤ ((ji4) : Int) := of_decide_eq_true rfA
      have q240 : (ji4) < (l0.length : Int) := of_decide_eq_true rfA
      obtain ⟨ad240, e240, ak, al⟩ := at_T33 HR0.out (ji4) p240 q240
      cases e240
      replace ak := (HB.out.cell (World.block_lt_of_cell? w _ ak)).trans ak
      replace al := (HB.out.cell (World.block_lt_of_cell? w _ al)).trans al
      replace p240 := eq_true p240
      replace q240 := eq_true q240
      have p241 : 0 ≤ (ag : Int) := of_decide_eq_true rfA
      have q241 : ag < (l0.length : Int) := of_decide_eq_true rfA
      obtain ⟨ad241, e241, an, ao⟩ := at_T33 HR0.out ag p241 q241
      obtain rfl : ad240 = ad241 := (by injection e241)
      replace an := (HB.out.cell (World.block_lt_of_cell? w _ an)).trans an
      replace ao := (HB.out.cell (World.block_lt_of_cell? w _ ao)).trans ao
      replace p241 := eq_true p241
      replace q241 := eq_true q241
      go_wp2
      repeat (go_quiet (fail); try go_wp2)
      go_ret
      exact ⟨by first | rfl | (simp [errW_none, errW_some] <;> rfl) | (simp only [← aJ]; first | rfl | (simp [errW_none, errW_some] <;> rfl)) | (simp [*, errW_none, errW_some] <;> rfl), eTx HB.out⟩
     ·have aR := beq_eq_false_iff_ne.mpr c9
      have bO := bne_iff_ne.mpr c9
      have H' := Aside0.mk H
      clear H
      have p240 : 0 ≤ ((ji4) : Int) := of_decide_eq_true rfA
      have q240 : (ji4) < (l0.length : Int) := of_decide_eq_true rfA
      obtain ⟨ad240, e240, ak, al⟩ := at_T33 HR0.out (ji4) p240 q240
      cases e240
      replace ak := (HB.out.cell (World.block_lt_of_cell? w _ ak)).trans ak
      replace al := (HB.out.cell (World.block_lt_of_cell? w _ al)).trans al
      replace p240 := eq_true p240
      replace q240 := eq_true q240
      have p241 : 0 ≤ (ag : Int) := of_decide_eq_true rfA
      have q241 : ag < (l0.length : Int) := of_decide_eq_true rfA
      obtain ⟨ad241, e241, an, ao⟩ := at_T33 HR0.out ag p241 q241
      obtain rfl : ad240 = ad241 := (by injection e241)
      replace an := (HB.out.cell (World.block_lt_of_cell? w _ an)).trans an
      replace ao := (HB.out.cell (World.block_lt_of_cell? w _ ao)).trans ao
      replace p241 := eq_true p241
      replace q241 := eq_true q241
      go_wp2
      repeat (go_quiet (fail); try go_wp2)
      go_roundg k1
      case measure => have := HK1.out; omega
      case rel => exact ⟨(wrap64 (ag + 1)), rfG, H', ⟨by have := HK1.out; omega⟩, ⟨eTx HB.out⟩⟩
    ·have aH : decide (0 < ag) = false := decide_eq_false c3
     clear c3
     have H' := Aside0.mk H
     clear H
     go_wp2
     repeat (go_quiet (fail); try go_wp2)
     go_roundg k1
     case measure => have := HK1.out; omega
     case rel => exact ⟨(wrap64 (ag + 1)), rfG, H', ⟨by have := HK1.out; omega⟩, ⟨eTx HB.out⟩⟩
   ·have aL := decide_eq_false c2
    clear c2
    replace H := bnd H; obtain ⟨aB, A10, H⟩ := H
    obtain rfl := smI H
    go_wp2_with (first | (go_at_call 22; (with_reducible refine (node_Check.calls k1 _ _ l0 aB _ (cW (Kd.C_below HR0.out HB.out)) HC0.out A10.out).mono ?_); rintro e w11 ⟨rfl, hb⟩; replace HB := am (sTx HB.out hb)))
    repeat (go_quiet (first | (go_at_call 22; (with_reducible refine (node_Check.calls k1 _ _ l0 aB _ (cW (Kd.C_below HR0.out HB.out)) HC0.out A10.out).mono ?_); rintro e w11 ⟨rfl, hb⟩; replace HB := am (sTx HB.out hb))); try go_wp2_with (first | (go_at_call 22; (with_reducible refine (node_Check.calls k1 _ _ l0 aB _ (cW (Kd.C_below HR0.out HB.out)) HC0.out A10.out).mono ?_); rintro e w11 ⟨rfl, hb⟩; replace HB := am (sTx HB.out hb))))
    go_ret
    exact ⟨rfF, eTx HB.out⟩

end Go.Proofs.YtknmfmedklfepaaDoor.P
