-- half the indentation
import Derived.Test.YtomjppafgalaoaaGreatDoorSqz
import Derived.Test.YtomjppafgalaoaaGreatDoorP0
import Derived.Test.YtomjppafgalaoaaGreatDoorP17
import Derived.Test.YtomjppafgalaoaaGreatDoorP20
namespace Go.Proofs.YtomjppafgalaoaaGreatDoor.P
open Go.RowKit Go.Proofs.YtomjppafgalaoaaGreatDoorW.PrintWords Go.Proofs.YtomjppafgalaoaaGreatDoorW.PrintLast Go.Proofs.YtomjppafgalaoaaGreatDoorW.PrintMore
attribute [local go_sem] max2_int min2_int max_two min_two max_three min_three max_four min_four
set_option linter.unusedVariables false
set_option linter.unusedSimpArgs false
set_option maxHeartbeats 8000000
set_option maxRecDepth 100000

/-! ### HAND store_find -/
/-- The first node of some that does not come ahead of a node. -/
def cmpN (k : Nat) (x : S27) (p v : ByteArray) : Option Int :=
 (node_May.f k x.f0 x.f1).bind fun y => if y = true then ((node_May.f k p v).bind fun z => if z = true then node_order.f k x.f0 x.f1 p v else some 0) else some 0
theorem cmpN_mono (k : Nat) (x : S27) (p v : ByteArray) : LeO (cmpN k x p v) (cmpN (k + 1) x p v) := by
 refine LeO.bind (node_May.mono _ _ _) (fun _ => ?_)
 refine LeO.ite ?_ (LeO.refl _)
 refine LeO.bind (node_May.mono _ _ _) (fun _ => ?_)
 exact LeO.ite (node_order.mono _ _ _ _ _) (LeO.refl _)
def idxGo (k : Nat) (p v : ByteArray) : List S27 → Nat → Option Int
 | [], _ => some (-1)
 | x :: l, i => (cmpN k x p v).bind fun c => if c ≥ 0 then some (i : Int) else idxGo k p v l (i + 1)
def idxF (k : Nat) (p v : ByteArray) (l : List S27) : Option Int := if l.length ≤ 1000000000 then idxGo k p v l 0 else none
def eqN (x : S27) (p v : ByteArray) : Bool := x.f0.toList == p.toList && x.f1.toList == v.toList
def store_find.f (k : Nat) (l0_0 : List (S27)) (l0_1 : List ByteArray) (a1_0 : ByteArray) (a1_1 : ByteArray) : Option (Int × Bool × Int) :=
 (store_Check.f k l0_0 l0_1).bind fun c => if c = 0 then ((node_May.f k a1_0 a1_1).bind fun y => if y = true then ((idxF k a1_0 a1_1 l0_0).bind fun i => if i < 0 then some ((l0_0.length : Int), false, 0) else some (i, eqN (rd_T27 l0_0 i) a1_0 a1_1, 0)) else some (0, false, 1)) else some (0, false, 1)
theorem idxGo_mono (k : Nat) (p v : ByteArray) : ∀ l i, LeO (idxGo k p v l i) (idxGo (k + 1) p v l i)
 | [], i => LeO.refl _
 | x :: l, i => by
  unfold idxGo
  refine LeO.bind (cmpN_mono k x p v) (fun _ => ?_)
  exact LeO.ite (LeO.refl _) (idxGo_mono k p v l _)
theorem store_find.mono : ∀ a0 a1 a2 a3 k, LeO (store_find.f k a0 a1 a2 a3) (store_find.f (k + 1) a0 a1 a2 a3) := by
 intro a b p v k
 refine LeO.bind (store_Check.mono _ _ _) (fun _ => ?_)
 refine LeO.ite ?_ (LeO.refl _)
 refine LeO.bind (node_May.mono _ _ _) (fun _ => ?_)
 refine LeO.ite ?_ (LeO.refl _)
 exact LeO.bind (LeO.ite (idxGo_mono k p v a 0) (LeO.refl _)) (fun _ => LeO.refl _)
set_option maxRecDepth 100000 in
set_option maxHeartbeats 1000000 in
theorem cmpN_calls (k : Nat) (x : S27) (p v : ByteArray) (c : Int) (w : World) (h : cmpN k x p v = some c) :
  Calls Tryz.prog 39 #[.agg #[.string x.f0, .string x.f1], .agg #[.string p, .string v]] w fun e w' => ∃ e2 : Int, e = .returned (.tuple #[.int .i64 c, .int .i64 e2]) ∧ Below w.heap.size w w' := by
 unfold cmpN at h
 obtain ⟨q, u⟩ := x
 simp only at h ⊢
 obtain ⟨y, hy, h⟩ := Option.bind_eq_some_iff.mp h
 have HY := Aside0.mk hy
 have HB := am (Below.refl w.heap.size w)
 clear hy
 cases y with
 | false =>
  obtain rfl : (0 : Int) = c := by simpa using h
  clear h
  go_enter Tryz.func39, Tryz.ntmps39
  go_wp2_with (first
    | ((with_reducible refine gtD 2 ?_); refine xBx 2 27 #[(.string q), (.string u)] ?_; intro gA hg w2 hbox hb; have BKA := Aside0.mk hbox; clear hbox hg; replace HB := am (below_step HB.out hb); clear hb; obtain ⟨hzA0, hfA0⟩ := bxA BKA; have hzA1 : w2.cell? ⟨gA, 1, none⟩ = some ((.string u)) := cT BKA 1; have hfA1 := blk_frozen BKA.out 1)
    | ((with_reducible refine gtD 3 ?_); refine xBx 3 27 #[(.string p), (.string v)] ?_; intro gB hg w3 hbox hb; have BKB := Aside0.mk hbox; clear hbox hg; have n0_ := am (below_step HB.out hb); have nA_ := am (blk_below (g := gA) (o := .cells #[(.string q), (.string u)] 27 (0, 0)) BKA.out hb); clear HB BKA hb; have HB := n0_; clear n0_; have BKA := nA_; clear nA_; have hzA0 : w3.cell? ⟨gA, 0, none⟩ = some ((.string q)) := cT BKA 0; have hzA1 : w3.cell? ⟨gA, 1, none⟩ = some ((.string u)) := cT BKA 1; obtain ⟨hzB0, hfB0⟩ := bxA BKB; have hzB1 : w3.cell? ⟨gB, 1, none⟩ = some ((.string v)) := cT BKB 1; have hfB1 := blk_frozen BKB.out 1)
    | (go_at_call 36; (with_reducible refine (node_May.calls k q u false _ HY.out).mono ?_); rintro e w4 ⟨rfl, hb⟩; have n0_ := am (below_step HB.out hb); have nA_ := am (blk_below (g := gA) (o := .cells #[(.string q), (.string u)] 27 (0, 0)) BKA.out hb); have nB_ := am (blk_below (g := gB) (o := .cells #[(.string p), (.string v)] 27 (0, 0)) BKB.out hb); clear HB BKA BKB hb; have HB := n0_; clear n0_; have BKA := nA_; clear nA_; have BKB := nB_; clear nB_; have hzA0 : w4.cell? ⟨gA, 0, none⟩ = some ((.string q)) := cT BKA 0; have hzA1 : w4.cell? ⟨gA, 1, none⟩ = some ((.string u)) := cT BKA 1; have hzB0 : w4.cell? ⟨gB, 0, none⟩ = some ((.string p)) := cT BKB 0; have hzB1 : w4.cell? ⟨gB, 1, none⟩ = some ((.string v)) := cT BKB 1))
  go_ret2
  exact ⟨_, rfl, HB.out⟩
 | true =>
  rw [if_pos rfl] at h
  obtain ⟨z, hz, h⟩ := Option.bind_eq_some_iff.mp h
  have HZ := Aside0.mk hz
  clear hz
  cases z with
  | false =>
   obtain rfl : (0 : Int) = c := by simpa using h
   clear h
   go_enter Tryz.func39, Tryz.ntmps39
   go_wp2_with (first
    | ((with_reducible refine gtD 2 ?_); refine xBx 2 27 #[(.string q), (.string u)] ?_; intro gA hg w2 hbox hb; have BKA := Aside0.mk hbox; clear hbox hg; replace HB := am (below_step HB.out hb); clear hb; obtain ⟨hzA0, hfA0⟩ := bxA BKA; have hzA1 : w2.cell? ⟨gA, 1, none⟩ = some ((.string u)) := cT BKA 1; have hfA1 := blk_frozen BKA.out 1)
    | ((with_reducible refine gtD 3 ?_); refine xBx 3 27 #[(.string p), (.string v)] ?_; intro gB hg w3 hbox hb; have BKB := Aside0.mk hbox; clear hbox hg; have n0_ := am (below_step HB.out hb); have nA_ := am (blk_below (g := gA) (o := .cells #[(.string q), (.string u)] 27 (0, 0)) BKA.out hb); clear HB BKA hb; have HB := n0_; clear n0_; have BKA := nA_; clear nA_; have hzA0 : w3.cell? ⟨gA, 0, none⟩ = some ((.string q)) := cT BKA 0; have hzA1 : w3.cell? ⟨gA, 1, none⟩ = some ((.string u)) := cT BKA 1; obtain ⟨hzB0, hfB0⟩ := bxA BKB; have hzB1 : w3.cell? ⟨gB, 1, none⟩ = some ((.string v)) := cT BKB 1; have hfB1 := blk_frozen BKB.out 1)
    | (go_at_call 36; (with_reducible refine (node_May.calls k q u true _ HY.out).mono ?_); rintro e w4 ⟨rfl, hb⟩; have n0_ := am (below_step HB.out hb); have nA_ := am (blk_below (g := gA) (o := .cells #[(.string q), (.string u)] 27 (0, 0)) BKA.out hb); have nB_ := am (blk_below (g := gB) (o := .cells #[(.string p), (.string v)] 27 (0, 0)) BKB.out hb); clear HB BKA BKB hb; have HB := n0_; clear n0_; have BKA := nA_; clear nA_; have BKB := nB_; clear nB_; have hzA0 : w4.cell? ⟨gA, 0, none⟩ = some ((.string q)) := cT BKA 0; have hzA1 : w4.cell? ⟨gA, 1, none⟩ = some ((.string u)) := cT BKA 1; have hzB0 : w4.cell? ⟨gB, 0, none⟩ = some ((.string p)) := cT BKB 0; have hzB1 : w4.cell? ⟨gB, 1, none⟩ = some ((.string v)) := cT BKB 1)
    | (go_at_call 36; (with_reducible refine (node_May.calls k p v false _ HZ.out).mono ?_); rintro e w5 ⟨rfl, hb⟩; have n0_ := am (below_step HB.out hb); have nA_ := am (blk_below (g := gA) (o := .cells #[(.string q), (.string u)] 27 (0, 0)) BKA.out hb); have nB_ := am (blk_below (g := gB) (o := .cells #[(.string p), (.string v)] 27 (0, 0)) BKB.out hb); clear HB BKA BKB hb; have HB := n0_; clear n0_; have BKA := nA_; clear nA_; have BKB := nB_; clear nB_; have hzA0 : w5.cell? ⟨gA, 0, none⟩ = some ((.string q)) := cT BKA 0; have hzA1 : w5.cell? ⟨gA, 1, none⟩ = some ((.string u)) := cT BKA 1; have hzB0 : w5.cell? ⟨gB, 0, none⟩ = some ((.string p)) := cT BKB 0; have hzB1 : w5.cell? ⟨gB, 1, none⟩ = some ((.string v)) := cT BKB 1))
   go_ret2
   exact ⟨_, rfl, HB.out⟩
  | true =>
   rw [if_pos rfl] at h
   have H := Aside0.mk h
   clear h
   go_enter Tryz.func39, Tryz.ntmps39
   go_wp2_with (first
    | ((with_reducible refine gtD 2 ?_); refine xBx 2 27 #[(.string q), (.string u)] ?_; intro gA hg w2 hbox hb; have BKA := Aside0.mk hbox; clear hbox hg; replace HB := am (below_step HB.out hb); clear hb; obtain ⟨hzA0, hfA0⟩ := bxA BKA; have hzA1 : w2.cell? ⟨gA, 1, none⟩ = some ((.string u)) := cT BKA 1; have hfA1 := blk_frozen BKA.out 1)
    | ((with_reducible refine gtD 3 ?_); refine xBx 3 27 #[(.string p), (.string v)] ?_; intro gB hg w3 hbox hb; have BKB := Aside0.mk hbox; clear hbox hg; have n0_ := am (below_step HB.out hb); have nA_ := am (blk_below (g := gA) (o := .cells #[(.string q), (.string u)] 27 (0, 0)) BKA.out hb); clear HB BKA hb; have HB := n0_; clear n0_; have BKA := nA_; clear nA_; have hzA0 : w3.cell? ⟨gA, 0, none⟩ = some ((.string q)) := cT BKA 0; have hzA1 : w3.cell? ⟨gA, 1, none⟩ = some ((.string u)) := cT BKA 1; obtain ⟨hzB0, hfB0⟩ := bxA BKB; have hzB1 : w3.cell? ⟨gB, 1, none⟩ = some ((.string v)) := cT BKB 1; have hfB1 := blk_frozen BKB.out 1)
    | (go_at_call 36; (with_reducible refine (node_May.calls k q u true _ HY.out).mono ?_); rintro e w4 ⟨rfl, hb⟩; have n0_ := am (below_step HB.out hb); have nA_ := am (blk_below (g := gA) (o := .cells #[(.string q), (.string u)] 27 (0, 0)) BKA.out hb); have nB_ := am (blk_below (g := gB) (o := .cells #[(.string p), (.string v)] 27 (0, 0)) BKB.out hb); clear HB BKA BKB hb; have HB := n0_; clear n0_; have BKA := nA_; clear nA_; have BKB := nB_; clear nB_; have hzA0 : w4.cell? ⟨gA, 0, none⟩ = some ((.string q)) := cT BKA 0; have hzA1 : w4.cell? ⟨gA, 1, none⟩ = some ((.string u)) := cT BKA 1; have hzB0 : w4.cell? ⟨gB, 0, none⟩ = some ((.string p)) := cT BKB 0; have hzB1 : w4.cell? ⟨gB, 1, none⟩ = some ((.string v)) := cT BKB 1)
    | (go_at_call 36; (with_reducible refine (node_May.calls k p v true _ HZ.out).mono ?_); rintro e w5 ⟨rfl, hb⟩; have n0_ := am (below_step HB.out hb); have nA_ := am (blk_below (g := gA) (o := .cells #[(.string q), (.string u)] 27 (0, 0)) BKA.out hb); have nB_ := am (blk_below (g := gB) (o := .cells #[(.string p), (.string v)] 27 (0, 0)) BKB.out hb); clear HB BKA BKB hb; have HB := n0_; clear n0_; have BKA := nA_; clear nA_; have BKB := nB_; clear nB_; have hzA0 : w5.cell? ⟨gA, 0, none⟩ = some ((.string q)) := cT BKA 0; have hzA1 : w5.cell? ⟨gA, 1, none⟩ = some ((.string u)) := cT BKA 1; have hzB0 : w5.cell? ⟨gB, 0, none⟩ = some ((.string p)) := cT BKB 0; have hzB1 : w5.cell? ⟨gB, 1, none⟩ = some ((.string v)) := cT BKB 1)
    | (go_at_call 46; (with_reducible refine (node_order.calls k q u p v c _ H.out).mono ?_); rintro e w6 ⟨rfl, hb⟩; have n0_ := am (below_step HB.out hb); have nA_ := am (blk_below (g := gA) (o := .cells #[(.string q), (.string u)] 27 (0, 0)) BKA.out hb); have nB_ := am (blk_below (g := gB) (o := .cells #[(.string p), (.string v)] 27 (0, 0)) BKB.out hb); clear HB BKA BKB hb; have HB := n0_; clear n0_; have BKA := nA_; clear nA_; have BKB := nB_; clear nB_; have hzA0 : w6.cell? ⟨gA, 0, none⟩ = some ((.string q)) := cT BKA 0; have hzA1 : w6.cell? ⟨gA, 1, none⟩ = some ((.string u)) := cT BKA 1; have hzB0 : w6.cell? ⟨gB, 0, none⟩ = some ((.string p)) := cT BKB 0; have hzB1 : w6.cell? ⟨gB, 1, none⟩ = some ((.string v)) := cT BKB 1))
   go_ret2
   exact ⟨_, rfl, HB.out⟩
set_option maxRecDepth 100000 in
set_option maxHeartbeats 1000000 in
theorem pred_calls (k : Nat) (x : S27) (p v : ByteArray) (c : Int) (gN : Nat) (w : World) (hb0 : w.heap[gN]? = some (.cells #[.string p, .string v] 27 (0, 0))) (h : cmpN k x p v = some c) :
  Calls Tryz.prog 38 #[.agg #[.string x.f0, .string x.f1], .pointer (some ⟨gN, 0, none⟩)] w fun e w' => e = .returned (.bool (decide (0 ≤ c))) ∧ Below w.heap.size w w' := by
 have H := Aside0.mk h
 have HB := am (Below.refl w.heap.size w)
 have BKN := Aside0.mk hb0
 have hzN0 : w.cell? ⟨gN, 0, none⟩ = some (.string p) := cT BKN 0
 have hzN1 : w.cell? ⟨gN, 1, none⟩ = some (.string v) := cT BKN 1
 clear h hb0
 obtain ⟨q, u⟩ := x
 simp only
 go_enter Tryz.func38, Tryz.ntmps38
 go_wp2_with (first
    | ((with_reducible refine gtD 2 ?_); refine xBx 2 27 #[(.string q), (.string u)] ?_; intro gA hg w2 hbox hb; have BKA := Aside0.mk hbox; clear hbox hg; have n0_ := am (below_step HB.out hb); have nN_ := am (blk_below (g := gN) (o := .cells #[(.string p), (.string v)] 27 (0, 0)) BKN.out hb); clear HB BKN hb; have HB := n0_; clear n0_; have BKN := nN_; clear nN_; have hzN0 : w2.cell? ⟨gN, 0, none⟩ = some ((.string p)) := cT BKN 0; have hzN1 : w2.cell? ⟨gN, 1, none⟩ = some ((.string v)) := cT BKN 1; obtain ⟨hzA0, hfA0⟩ := bxA BKA; have hzA1 : w2.cell? ⟨gA, 1, none⟩ = some ((.string u)) := cT BKA 1; have hfA1 := blk_frozen BKA.out 1)
    | (go_at_call 39; (with_reducible refine (cmpN_calls k ⟨q, u⟩ p v c _ H.out).mono ?_); rintro e w4 ⟨e2, rfl, hb⟩; have n0_ := am (below_step HB.out hb); have nN_ := am (blk_below (g := gN) (o := .cells #[(.string p), (.string v)] 27 (0, 0)) BKN.out hb); have nA_ := am (blk_below (g := gA) (o := .cells #[(.string q), (.string u)] 27 (0, 0)) BKA.out hb); clear HB BKN BKA hb; have HB := n0_; clear n0_; have BKN := nN_; clear nN_; have BKA := nA_; clear nA_; have hzN0 : w4.cell? ⟨gN, 0, none⟩ = some ((.string p)) := cT BKN 0; have hzN1 : w4.cell? ⟨gN, 1, none⟩ = some ((.string v)) := cT BKN 1; have hzA0 : w4.cell? ⟨gA, 0, none⟩ = some ((.string q)) := cT BKA 0; have hzA1 : w4.cell? ⟨gA, 1, none⟩ = some ((.string u)) := cT BKA 1))
 all_goals
  go_ret
  exact ⟨rfl, HB.out⟩
set_option maxRecDepth 100000 in
set_option maxHeartbeats 1000000 in
theorem index_calls (k : Nat) (A0 : Option Addr) (c0 : Nat) (l : List S27) (p v : ByteArray) (r : Int) (gN : Nat) (w : World) (hr : Kd.C k27 w A0 l.length l) (hb0 : w.heap[gN]? = some (.cells #[.string p, .string v] 27 (0, 0))) (h : idxF k p v l = some r) :
  Calls Tryz.prog 37 #[.slice A0 l.length c0, .func (.func 38) #[] #[.pointer (some ⟨gN, 0, none⟩)]] w fun e w' => e = .returned (.int .i64 r) ∧ Below w.heap.size w w' := by
 unfold idxF at h
 by_cases hlen : l.length ≤ 1000000000
 case neg => rw [if_neg hlen] at h; cases h
 rw [if_pos hlen] at h
 have H := Aside0.mk h
 have HR0 := Aside0.mk hr
 have BK := Aside0.mk hb0
 have HB := am (Below.refl w.heap.size w)
 have eg : ∀ args w, (callFunc 38 args).run Tryz.prog w = .ok (.enter 38 args) w := enters_of Tryz.func38 rfK rfl
 have hn63 : l.length ≤ 9223372036854775807 := by omega
 have HL := Aside0.mk hlen
 clear h hr hb0 hlen
 go_enter Tryz.func37, Tryz.ntmps37
 go_wp2
 go_loopg [5, 8] l.length (fun gg _ s8 wr => ∃ kk : Nat, kk ≤ l.length ∧ l.length - kk ≤ gg ∧ s8 = .int .i64 kk ∧ Aside0 (idxGo k p v (l.drop kk) kk = some r) ∧ Aside0 (Below w.heap.size w wr))
 case atStart => exact ⟨0, Nat.zero_le _, by omega, rfl, ⟨by rw [List.drop_zero]; exact H.out⟩, HB⟩
 case round =>
  clear HB H
  obtain ⟨kk, hkk, hg, rfl, H, HB⟩ := hrel
  by_cases hlt : kk < l.length
  ·have hltz : (kk : Int) < (l.length : Int) := by omega
   have p0 : (0 : Int) ≤ (kk : Int) := by omega
   obtain ⟨ad, ead, hx0, hx1⟩ := at_T27 (Kd.C_below HR0.out HB.out) (kk : Int) p0 hltz
   cases ead
   have hrd : rd_T27 l (kk : Int) = l[kk] := by simp [rd_T27, rdOf, List.getD_eq_getElem?_getD, hlt]
   obtain ⟨n, hn⟩ : ∃ n, n = l[kk] := ⟨_, rfl⟩
   rw [hrd, ← hn, Int.toNat_natCast] at hx0 hx1
   have h0 := H.out
   rw [List.drop_eq_getElem_cons hlt, ← hn, idxGo] at h0
   obtain ⟨c, hc, h⟩ := Option.bind_eq_some_iff.mp h0
   have HC := Aside0.mk hc
   have BKN := am (blk_below BK.out HB.out)
   have HLT := Aside0.mk hlt
   clear hc H hn hrd hlt h0
   obtain ⟨q, u⟩ := n
   simp only at hx0 hx1
   by_cases hc0 : 0 ≤ c
   ·rw [if_pos (show c ≥ 0 from hc0)] at h
    have h' := smI h
    subst h'
    have hd := decide_eq_true hc0
    clear h hc0
    go_wp2_with (go_at_fn 38; (with_reducible refine (pred_calls k ⟨q, u⟩ p v c gN _ BKN.out HC.out).mono ?_); rintro e w4 ⟨rfl, hb⟩; rw [hd]; have n0_ := am (below_step HB.out hb); have nN_ := am (blk_below (g := gN) (o := .cells #[(.string p), (.string v)] 27 (0, 0)) BKN.out hb); clear HB BKN hb; have HB := n0_; clear n0_; have BKN := nN_; clear nN_; have hzN0 : w4.cell? ⟨gN, 0, none⟩ = some ((.string p)) := cT BKN 0; have hzN1 : w4.cell? ⟨gN, 1, none⟩ = some ((.string v)) := cT BKN 1)
    go_ret
    exact ⟨rfl, HB.out⟩
   ·rw [if_neg (show ¬ (c ≥ 0) from hc0)] at h
    have H := Aside0.mk h
    have hd := decide_eq_false hc0
    clear h hc0
    go_wp2_with (go_at_fn 38; (with_reducible refine (pred_calls k ⟨q, u⟩ p v c gN _ BKN.out HC.out).mono ?_); rintro e w4 ⟨rfl, hb⟩; rw [hd]; have n0_ := am (below_step HB.out hb); have nN_ := am (blk_below (g := gN) (o := .cells #[(.string p), (.string v)] 27 (0, 0)) BKN.out hb); clear HB BKN hb; have HB := n0_; clear n0_; have BKN := nN_; clear nN_; have hzN0 : w4.cell? ⟨gN, 0, none⟩ = some ((.string p)) := cT BKN 0; have hzN1 : w4.cell? ⟨gN, 1, none⟩ = some ((.string v)) := cT BKN 1)
    go_roundg (l.length - (kk + 1))
    case measure => have := HLT.out; omega
    case rel => exact ⟨kk + 1, by have := HLT.out; omega, by omega, by go_num, H, HB⟩
  ·have hltz : ¬ (kk : Int) < (l.length : Int) := by omega
   have h := H.out
   rw [List.drop_eq_nil_of_le (by omega), idxGo] at h
   have h' := smI h
   subst h'
   clear h H
   go_wp2
   go_ret
   exact ⟨rfl, HB.out⟩
theorem idxGo_bound (k : Nat) (p v : ByteArray) : ∀ (l : List S27) (i : Nat) (r : Int), idxGo k p v l i = some r → r = -1 ∨ ((i : Int) ≤ r ∧ r < (i : Int) + (l.length : Int))
 | [], i, r, h => .inl (Option.some.inj h).symm
 | x :: l, i, r, h => by
  rw [idxGo] at h
  obtain ⟨c, -, h⟩ := Option.bind_eq_some_iff.mp h
  by_cases hc : c ≥ 0
  ·rw [if_pos hc] at h
   have := Option.some.inj h
   refine .inr ⟨by omega, ?_⟩
   rw [List.length_cons]; omega
  ·rw [if_neg hc] at h
   rcases idxGo_bound k p v l (i + 1) r h with h | ⟨h1, h2⟩
   ·exact .inl h
   ·refine .inr ⟨by omega, ?_⟩
    rw [List.length_cons]; omega
theorem idxF_bound {k : Nat} {p v : ByteArray} {l : List S27} {r : Int} (h : idxF k p v l = some r) : r = -1 ∨ (0 ≤ r ∧ r < (l.length : Int)) := by
 unfold idxF at h
 split at h
 case isFalse => cases h
 rcases idxGo_bound k p v l 0 r h with h | ⟨h1, h2⟩
 ·exact .inl h
 ·exact .inr ⟨by omega, by omega⟩
set_option maxRecDepth 100000 in
set_option maxHeartbeats 1000000 in
theorem store_find.calls (k : Nat) (ae : Option Addr) (aa : Nat) (l0_0 : List (S27)) (ab : Option Addr) (ac : Nat) (l0_1 : List ByteArray) (a1_0 : ByteArray) (a1_1 : ByteArray) (r1 : Int) (r2 : Bool) (r3 : Int) (w : World) (hr0_0 : Kd.C k27 w ae l0_0.length l0_0) (hc0_0 : l0_0.length ≤ aa) (hr0_1 : Kd.C Kd.string w ab l0_1.length l0_1) (hc0_1 : l0_1.length ≤ ac) (h : store_find.f k l0_0 l0_1 a1_0 a1_1 = some (r1, r2, r3)) :
  Calls Tryz.prog 21 #[.agg #[.slice ae l0_0.length aa, .slice ab l0_1.length ac], .agg #[.string a1_0, .string a1_1]] w fun e w' => e = .returned (.tuple #[.int .i64 r1, .bool r2, .int .i64 r3]) ∧ Below w.heap.size w w' := by
 have hu27 := Tryz.underlying27
 unfold store_find.f at h
 generalize a1_0 = p at h ⊢
 generalize a1_1 = v at h ⊢
 have af := Aside0.mk hr0_0
 have ag := Aside0.mk hr0_1
 have ah := Aside0.mk hc0_0
 have ai := Aside0.mk hc0_1
 have HB := am (Below.refl w.heap.size w)
 clear hr0_0 hr0_1 hc0_0 hc0_1
 obtain ⟨c, hc, h⟩ := Option.bind_eq_some_iff.mp h
 have HC := Aside0.mk hc
 clear hc
 by_cases c0 : c = 0
 case neg =>
  rw [if_neg c0] at h
  obtain ⟨rfl, rfl, rfl⟩ : 0 = r1 ∧ false = r2 ∧ 1 = r3 := by simpa using h
  have aj := beq_eq_false_iff_ne.mpr c0
  have ak := bne_iff_ne.mpr c0
  clear h
  go_enter Tryz.func21, Tryz.ntmps21
  go_wp2_with (first
    | ((with_reducible refine gtD 2 ?_); refine xBx 2 25 #[(.slice ae l0_0.length aa), (.slice ab l0_1.length ac)] ?_; intro gS hg w2 hbox hb; have BKS := Aside0.mk hbox; clear hbox hg; replace HB := am (below_step HB.out hb); clear hb; obtain ⟨hzS0, hfS0⟩ := bxA BKS; have hzS1 : w2.cell? ⟨gS, 1, none⟩ = some ((.slice ab l0_1.length ac)) := cT BKS 1; have hfS1 := blk_frozen BKS.out 1)
    | ((with_reducible refine gtD 3 ?_); refine xBx 3 27 #[(.string p), (.string v)] ?_; intro gN hg w3 hbox hb; have BKN := Aside0.mk hbox; clear hbox hg; have n0_ := am (below_step HB.out hb); have nS_ := am (blk_below (g := gS) (o := .cells #[(.slice ae l0_0.length aa), (.slice ab l0_1.length ac)] 25 (0, 0)) BKS.out hb); clear HB BKS hb; have HB := n0_; clear n0_; have BKS := nS_; clear nS_; have hzS0 : w3.cell? ⟨gS, 0, none⟩ = some ((.slice ae l0_0.length aa)) := cT BKS 0; have hzS1 : w3.cell? ⟨gS, 1, none⟩ = some ((.slice ab l0_1.length ac)) := cT BKS 1; obtain ⟨hzN0, hfN0⟩ := bxA BKN; have hzN1 : w3.cell? ⟨gN, 1, none⟩ = some ((.string v)) := cT BKN 1; have hfN1 := blk_frozen BKN.out 1)
    | (go_at_call 9; (with_reducible refine (store_Check.calls k ae aa l0_0 ab ac l0_1 c _ (Kd.C_below af.out HB.out) ah.out (Kd.C_below ag.out HB.out) ai.out HC.out).mono ?_); rintro e w4 ⟨rfl, hb⟩; have n0_ := am (below_step HB.out hb); have nS_ := am (blk_below (g := gS) (o := .cells #[(.slice ae l0_0.length aa), (.slice ab l0_1.length ac)] 25 (0, 0)) BKS.out hb); have nN_ := am (blk_below (g := gN) (o := .cells #[(.string p), (.string v)] 27 (0, 0)) BKN.out hb); clear HB BKS BKN hb; have HB := n0_; clear n0_; have BKS := nS_; clear nS_; have BKN := nN_; clear nN_; have hzS0 : w4.cell? ⟨gS, 0, none⟩ = some ((.slice ae l0_0.length aa)) := cT BKS 0; have hzS1 : w4.cell? ⟨gS, 1, none⟩ = some ((.slice ab l0_1.length ac)) := cT BKS 1; have hzN0 : w4.cell? ⟨gN, 0, none⟩ = some ((.string p)) := cT BKN 0; have hzN1 : w4.cell? ⟨gN, 1, none⟩ = some ((.string v)) := cT BKN 1))
  (try simp only [Exit.inBlock, Exit.then])
  have hres := results_tmp3 (fn := Tryz.f21) rfl
  refine bodyPost_ret (hres _ _ _) rfl ?_
  exact ⟨rfl, HB.out⟩
 rw [if_pos c0] at h
 subst c0
 obtain ⟨y, hy, h⟩ := Option.bind_eq_some_iff.mp h
 have HY := Aside0.mk hy
 clear hy
 cases y with
 | false =>
  rw [if_neg (by decide)] at h
  obtain ⟨rfl, rfl, rfl⟩ : 0 = r1 ∧ false = r2 ∧ 1 = r3 := by simpa using h
  clear h
  go_enter Tryz.func21, Tryz.ntmps21
  go_wp2_with (first
    | ((with_reducible refine gtD 2 ?_); refine xBx 2 25 #[(.slice ae l0_0.length aa), (.slice ab l0_1.length ac)] ?_; intro gS hg w2 hbox hb; have BKS := Aside0.mk hbox; clear hbox hg; replace HB := am (below_step HB.out hb); clear hb; obtain ⟨hzS0, hfS0⟩ := bxA BKS; have hzS1 : w2.cell? ⟨gS, 1, none⟩ = some ((.slice ab l0_1.length ac)) := cT BKS 1; have hfS1 := blk_frozen BKS.out 1)
    | ((with_reducible refine gtD 3 ?_); refine xBx 3 27 #[(.string p), (.string v)] ?_; intro gN hg w3 hbox hb; have BKN := Aside0.mk hbox; clear hbox hg; have n0_ := am (below_step HB.out hb); have nS_ := am (blk_below (g := gS) (o := .cells #[(.slice ae l0_0.length aa), (.slice ab l0_1.length ac)] 25 (0, 0)) BKS.out hb); clear HB BKS hb; have HB := n0_; clear n0_; have BKS := nS_; clear nS_; have hzS0 : w3.cell? ⟨gS, 0, none⟩ = some ((.slice ae l0_0.length aa)) := cT BKS 0; have hzS1 : w3.cell? ⟨gS, 1, none⟩ = some ((.slice ab l0_1.length ac)) := cT BKS 1; obtain ⟨hzN0, hfN0⟩ := bxA BKN; have hzN1 : w3.cell? ⟨gN, 1, none⟩ = some ((.string v)) := cT BKN 1; have hfN1 := blk_frozen BKN.out 1)
    | (go_at_call 9; (with_reducible refine (store_Check.calls k ae aa l0_0 ab ac l0_1 0 _ (Kd.C_below af.out HB.out) ah.out (Kd.C_below ag.out HB.out) ai.out HC.out).mono ?_); rintro e w4 ⟨rfl, hb⟩; have n0_ := am (below_step HB.out hb); have nS_ := am (blk_below (g := gS) (o := .cells #[(.slice ae l0_0.length aa), (.slice ab l0_1.length ac)] 25 (0, 0)) BKS.out hb); have nN_ := am (blk_below (g := gN) (o := .cells #[(.string p), (.string v)] 27 (0, 0)) BKN.out hb); clear HB BKS BKN hb; have HB := n0_; clear n0_; have BKS := nS_; clear nS_; have BKN := nN_; clear nN_; have hzS0 : w4.cell? ⟨gS, 0, none⟩ = some ((.slice ae l0_0.length aa)) := cT BKS 0; have hzS1 : w4.cell? ⟨gS, 1, none⟩ = some ((.slice ab l0_1.length ac)) := cT BKS 1; have hzN0 : w4.cell? ⟨gN, 0, none⟩ = some ((.string p)) := cT BKN 0; have hzN1 : w4.cell? ⟨gN, 1, none⟩ = some ((.string v)) := cT BKN 1)
    | (go_at_call 36; (with_reducible refine (node_May.calls k p v false _ HY.out).mono ?_); rintro e w5 ⟨rfl, hb⟩; have n0_ := am (below_step HB.out hb); have nS_ := am (blk_below (g := gS) (o := .cells #[(.slice ae l0_0.length aa), (.slice ab l0_1.length ac)] 25 (0, 0)) BKS.out hb); have nN_ := am (blk_below (g := gN) (o := .cells #[(.string p), (.string v)] 27 (0, 0)) BKN.out hb); clear HB BKS BKN hb; have HB := n0_; clear n0_; have BKS := nS_; clear nS_; have BKN := nN_; clear nN_; have hzS0 : w5.cell? ⟨gS, 0, none⟩ = some ((.slice ae l0_0.length aa)) := cT BKS 0; have hzS1 : w5.cell? ⟨gS, 1, none⟩ = some ((.slice ab l0_1.length ac)) := cT BKS 1; have hzN0 : w5.cell? ⟨gN, 0, none⟩ = some ((.string p)) := cT BKN 0; have hzN1 : w5.cell? ⟨gN, 1, none⟩ = some ((.string v)) := cT BKN 1))
  (try simp only [Exit.inBlock, Exit.then])
  have hres := results_tmp3 (fn := Tryz.f21) rfl
  refine bodyPost_ret (hres _ _ _) rfl ?_
  exact ⟨rfl, HB.out⟩
 | true =>
  rw [if_pos rfl] at h
  obtain ⟨i, hi, h⟩ := Option.bind_eq_some_iff.mp h
  have HI := Aside0.mk hi
  by_cases i0 : i < 0
  ·rw [if_pos i0] at h
   obtain ⟨rfl, rfl, rfl⟩ : (l0_0.length : Int) = r1 ∧ false = r2 ∧ 0 = r3 := by simpa using h
   clear h hi
   go_enter Tryz.func21, Tryz.ntmps21
   go_wp2_with (first
    | ((with_reducible refine gtD 2 ?_); refine xBx 2 25 #[(.slice ae l0_0.length aa), (.slice ab l0_1.length ac)] ?_; intro gS hg w2 hbox hb; have BKS := Aside0.mk hbox; clear hbox hg; replace HB := am (below_step HB.out hb); clear hb; obtain ⟨hzS0, hfS0⟩ := bxA BKS; have hzS1 : w2.cell? ⟨gS, 1, none⟩ = some ((.slice ab l0_1.length ac)) := cT BKS 1; have hfS1 := blk_frozen BKS.out 1)
    | ((with_reducible refine gtD 3 ?_); refine xBx 3 27 #[(.string p), (.string v)] ?_; intro gN hg w3 hbox hb; have BKN := Aside0.mk hbox; clear hbox hg; have n0_ := am (below_step HB.out hb); have nS_ := am (blk_below (g := gS) (o := .cells #[(.slice ae l0_0.length aa), (.slice ab l0_1.length ac)] 25 (0, 0)) BKS.out hb); clear HB BKS hb; have HB := n0_; clear n0_; have BKS := nS_; clear nS_; have hzS0 : w3.cell? ⟨gS, 0, none⟩ = some ((.slice ae l0_0.length aa)) := cT BKS 0; have hzS1 : w3.cell? ⟨gS, 1, none⟩ = some ((.slice ab l0_1.length ac)) := cT BKS 1; obtain ⟨hzN0, hfN0⟩ := bxA BKN; have hzN1 : w3.cell? ⟨gN, 1, none⟩ = some ((.string v)) := cT BKN 1; have hfN1 := blk_frozen BKN.out 1)
    | (go_at_call 9; (with_reducible refine (store_Check.calls k ae aa l0_0 ab ac l0_1 0 _ (Kd.C_below af.out HB.out) ah.out (Kd.C_below ag.out HB.out) ai.out HC.out).mono ?_); rintro e w4 ⟨rfl, hb⟩; have n0_ := am (below_step HB.out hb); have nS_ := am (blk_below (g := gS) (o := .cells #[(.slice ae l0_0.length aa), (.slice ab l0_1.length ac)] 25 (0, 0)) BKS.out hb); have nN_ := am (blk_below (g := gN) (o := .cells #[(.string p), (.string v)] 27 (0, 0)) BKN.out hb); clear HB BKS BKN hb; have HB := n0_; clear n0_; have BKS := nS_; clear nS_; have BKN := nN_; clear nN_; have hzS0 : w4.cell? ⟨gS, 0, none⟩ = some ((.slice ae l0_0.length aa)) := cT BKS 0; have hzS1 : w4.cell? ⟨gS, 1, none⟩ = some ((.slice ab l0_1.length ac)) := cT BKS 1; have hzN0 : w4.cell? ⟨gN, 0, none⟩ = some ((.string p)) := cT BKN 0; have hzN1 : w4.cell? ⟨gN, 1, none⟩ = some ((.string v)) := cT BKN 1)
    | (go_at_call 36; (with_reducible refine (node_May.calls k p v true _ HY.out).mono ?_); rintro e w5 ⟨rfl, hb⟩; have n0_ := am (below_step HB.out hb); have nS_ := am (blk_below (g := gS) (o := .cells #[(.slice ae l0_0.length aa), (.slice ab l0_1.length ac)] 25 (0, 0)) BKS.out hb); have nN_ := am (blk_below (g := gN) (o := .cells #[(.string p), (.string v)] 27 (0, 0)) BKN.out hb); clear HB BKS BKN hb; have HB := n0_; clear n0_; have BKS := nS_; clear nS_; have BKN := nN_; clear nN_; have hzS0 : w5.cell? ⟨gS, 0, none⟩ = some ((.slice ae l0_0.length aa)) := cT BKS 0; have hzS1 : w5.cell? ⟨gS, 1, none⟩ = some ((.slice ab l0_1.length ac)) := cT BKS 1; have hzN0 : w5.cell? ⟨gN, 0, none⟩ = some ((.string p)) := cT BKN 0; have hzN1 : w5.cell? ⟨gN, 1, none⟩ = some ((.string v)) := cT BKN 1)
    | (go_at_call 37; (with_reducible refine (index_calls k ae aa l0_0 p v i gN _ (Kd.C_below af.out HB.out) BKN.out HI.out).mono ?_); rintro e w6 ⟨rfl, hb⟩; have n0_ := am (below_step HB.out hb); have nS_ := am (blk_below (g := gS) (o := .cells #[(.slice ae l0_0.length aa), (.slice ab l0_1.length ac)] 25 (0, 0)) BKS.out hb); have nN_ := am (blk_below (g := gN) (o := .cells #[(.string p), (.string v)] 27 (0, 0)) BKN.out hb); clear HB BKS BKN hb; have HB := n0_; clear n0_; have BKS := nS_; clear nS_; have BKN := nN_; clear nN_; have hzS0 : w6.cell? ⟨gS, 0, none⟩ = some ((.slice ae l0_0.length aa)) := cT BKS 0; have hzS1 : w6.cell? ⟨gS, 1, none⟩ = some ((.slice ab l0_1.length ac)) := cT BKS 1; have hzN0 : w6.cell? ⟨gN, 0, none⟩ = some ((.string p)) := cT BKN 0; have hzN1 : w6.cell? ⟨gN, 1, none⟩ = some ((.string v)) := cT BKN 1))
   (try simp only [Exit.inBlock, Exit.then])
   have hres := results_tmp3 (fn := Tryz.f21) rfl
   refine bodyPost_ret (hres _ _ _) rfl ?_
   exact ⟨rfl, HB.out⟩
  ·rw [if_neg i0] at h
   obtain ⟨p0, q0⟩ : 0 ≤ i ∧ i < (l0_0.length : Int) := by
    rcases idxF_bound hi with h | h
    ·omega
    ·exact h
   obtain ⟨⟨q, u⟩, hn⟩ : ∃ n, rd_T27 l0_0 i = n := ⟨_, rfl⟩
   rw [hn] at h
   unfold eqN at h
   simp only at h
   have Hn := Aside0.mk hn
   obtain ⟨ad, ead, -, -⟩ := at_T27 af.out i p0 q0
   subst ead
   clear hi hn
   by_cases e1 : q.toList = p.toList
   ·by_cases e2 : u.toList = v.toList
    ·have hb2 : (q.toList == p.toList && u.toList == v.toList) = true := by simp [e1, e2]
     rw [hb2] at h
     obtain ⟨rfl, rfl, rfl⟩ : i = r1 ∧ true = r2 ∧ 0 = r3 := by simpa using h
     clear h hb2
     go_enter Tryz.func21, Tryz.ntmps21
     go_wp2_with (first
    | ((with_reducible refine gtD 2 ?_); refine xBx 2 25 #[(.slice (some ad) l0_0.length aa), (.slice ab l0_1.length ac)] ?_; intro gS hg w2 hbox hb; have BKS := Aside0.mk hbox; clear hbox hg; replace HB := am (below_step HB.out hb); clear hb; obtain ⟨hzS0, hfS0⟩ := bxA BKS; have hzS1 : w2.cell? ⟨gS, 1, none⟩ = some ((.slice ab l0_1.length ac)) := cT BKS 1; have hfS1 := blk_frozen BKS.out 1)
    | ((with_reducible refine gtD 3 ?_); refine xBx 3 27 #[(.string p), (.string v)] ?_; intro gN hg w3 hbox hb; have BKN := Aside0.mk hbox; clear hbox hg; have n0_ := am (below_step HB.out hb); have nS_ := am (blk_below (g := gS) (o := .cells #[(.slice (some ad) l0_0.length aa), (.slice ab l0_1.length ac)] 25 (0, 0)) BKS.out hb); clear HB BKS hb; have HB := n0_; clear n0_; have BKS := nS_; clear nS_; have hzS0 : w3.cell? ⟨gS, 0, none⟩ = some ((.slice (some ad) l0_0.length aa)) := cT BKS 0; have hzS1 : w3.cell? ⟨gS, 1, none⟩ = some ((.slice ab l0_1.length ac)) := cT BKS 1; obtain ⟨hzN0, hfN0⟩ := bxA BKN; have hzN1 : w3.cell? ⟨gN, 1, none⟩ = some ((.string v)) := cT BKN 1; have hfN1 := blk_frozen BKN.out 1)
    | (go_at_call 9; (with_reducible refine (store_Check.calls k (some ad) aa l0_0 ab ac l0_1 0 _ (Kd.C_below af.out HB.out) ah.out (Kd.C_below ag.out HB.out) ai.out HC.out).mono ?_); rintro e w4 ⟨rfl, hb⟩; have n0_ := am (below_step HB.out hb); have nS_ := am (blk_below (g := gS) (o := .cells #[(.slice (some ad) l0_0.length aa), (.slice ab l0_1.length ac)] 25 (0, 0)) BKS.out hb); have nN_ := am (blk_below (g := gN) (o := .cells #[(.string p), (.string v)] 27 (0, 0)) BKN.out hb); clear HB BKS BKN hb; have HB := n0_; clear n0_; have BKS := nS_; clear nS_; have BKN := nN_; clear nN_; have hzS0 : w4.cell? ⟨gS, 0, none⟩ = some ((.slice (some ad) l0_0.length aa)) := cT BKS 0; have hzS1 : w4.cell? ⟨gS, 1, none⟩ = some ((.slice ab l0_1.length ac)) := cT BKS 1; have hzN0 : w4.cell? ⟨gN, 0, none⟩ = some ((.string p)) := cT BKN 0; have hzN1 : w4.cell? ⟨gN, 1, none⟩ = some ((.string v)) := cT BKN 1)
    | (go_at_call 36; (with_reducible refine (node_May.calls k p v true _ HY.out).mono ?_); rintro e w5 ⟨rfl, hb⟩; have n0_ := am (below_step HB.out hb); have nS_ := am (blk_below (g := gS) (o := .cells #[(.slice (some ad) l0_0.length aa), (.slice ab l0_1.length ac)] 25 (0, 0)) BKS.out hb); have nN_ := am (blk_below (g := gN) (o := .cells #[(.string p), (.string v)] 27 (0, 0)) BKN.out hb); clear HB BKS BKN hb; have HB := n0_; clear n0_; have BKS := nS_; clear nS_; have BKN := nN_; clear nN_; have hzS0 : w5.cell? ⟨gS, 0, none⟩ = some ((.slice (some ad) l0_0.length aa)) := cT BKS 0; have hzS1 : w5.cell? ⟨gS, 1, none⟩ = some ((.slice ab l0_1.length ac)) := cT BKS 1; have hzN0 : w5.cell? ⟨gN, 0, none⟩ = some ((.string p)) := cT BKN 0; have hzN1 : w5.cell? ⟨gN, 1, none⟩ = some ((.string v)) := cT BKN 1)
    | (go_at_call 37; (with_reducible refine (index_calls k (some ad) aa l0_0 p v i gN _ (Kd.C_below af.out HB.out) BKN.out HI.out).mono ?_); rintro e w6 ⟨rfl, hb⟩; have n0_ := am (below_step HB.out hb); have nS_ := am (blk_below (g := gS) (o := .cells #[(.slice (some ad) l0_0.length aa), (.slice ab l0_1.length ac)] 25 (0, 0)) BKS.out hb); have nN_ := am (blk_below (g := gN) (o := .cells #[(.string p), (.string v)] 27 (0, 0)) BKN.out hb); clear HB BKS BKN hb; have HB := n0_; clear n0_; have BKS := nS_; clear nS_; have BKN := nN_; clear nN_; have hzS0 : w6.cell? ⟨gS, 0, none⟩ = some ((.slice (some ad) l0_0.length aa)) := cT BKS 0; have hzS1 : w6.cell? ⟨gS, 1, none⟩ = some ((.slice ab l0_1.length ac)) := cT BKS 1; have hzN0 : w6.cell? ⟨gN, 0, none⟩ = some ((.string p)) := cT BKN 0; have hzN1 : w6.cell? ⟨gN, 1, none⟩ = some ((.string v)) := cT BKN 1; obtain ⟨ad', ead', hx0, hx1⟩ := at_T27 (Kd.C_below af.out HB.out) i p0 q0; cases ead'; rw [Hn.out] at hx0 hx1; simp only at hx0 hx1))
     go_region
     all_goals
      go_wp2
      (try simp only [Exit.inBlock, Exit.then])
      have hres := results_tmp3 (fn := Tryz.f21) rfl
      refine bodyPost_ret (hres _ _ _) rfl ?_
      exact ⟨rfl, below_drew HB.out⟩
    ·have hb2 : (q.toList == p.toList && u.toList == v.toList) = false := by simp [e1, e2]
     rw [hb2] at h
     obtain ⟨rfl, rfl, rfl⟩ : i = r1 ∧ false = r2 ∧ 0 = r3 := by simpa using h
     clear h hb2
     go_enter Tryz.func21, Tryz.ntmps21
     go_wp2_with (first
    | ((with_reducible refine gtD 2 ?_); refine xBx 2 25 #[(.slice (some ad) l0_0.length aa), (.slice ab l0_1.length ac)] ?_; intro gS hg w2 hbox hb; have BKS := Aside0.mk hbox; clear hbox hg; replace HB := am (below_step HB.out hb); clear hb; obtain ⟨hzS0, hfS0⟩ := bxA BKS; have hzS1 : w2.cell? ⟨gS, 1, none⟩ = some ((.slice ab l0_1.length ac)) := cT BKS 1; have hfS1 := blk_frozen BKS.out 1)
    | ((with_reducible refine gtD 3 ?_); refine xBx 3 27 #[(.string p), (.string v)] ?_; intro gN hg w3 hbox hb; have BKN := Aside0.mk hbox; clear hbox hg; have n0_ := am (below_step HB.out hb); have nS_ := am (blk_below (g := gS) (o := .cells #[(.slice (some ad) l0_0.length aa), (.slice ab l0_1.length ac)] 25 (0, 0)) BKS.out hb); clear HB BKS hb; have HB := n0_; clear n0_; have BKS := nS_; clear nS_; have hzS0 : w3.cell? ⟨gS, 0, none⟩ = some ((.slice (some ad) l0_0.length aa)) := cT BKS 0; have hzS1 : w3.cell? ⟨gS, 1, none⟩ = some ((.slice ab l0_1.length ac)) := cT BKS 1; obtain ⟨hzN0, hfN0⟩ := bxA BKN; have hzN1 : w3.cell? ⟨gN, 1, none⟩ = some ((.string v)) := cT BKN 1; have hfN1 := blk_frozen BKN.out 1)
    | (go_at_call 9; (with_reducible refine (store_Check.calls k (some ad) aa l0_0 ab ac l0_1 0 _ (Kd.C_below af.out HB.out) ah.out (Kd.C_below ag.out HB.out) ai.out HC.out).mono ?_); rintro e w4 ⟨rfl, hb⟩; have n0_ := am (below_step HB.out hb); have nS_ := am (blk_below (g := gS) (o := .cells #[(.slice (some ad) l0_0.length aa), (.slice ab l0_1.length ac)] 25 (0, 0)) BKS.out hb); have nN_ := am (blk_below (g := gN) (o := .cells #[(.string p), (.string v)] 27 (0, 0)) BKN.out hb); clear HB BKS BKN hb; have HB := n0_; clear n0_; have BKS := nS_; clear nS_; have BKN := nN_; clear nN_; have hzS0 : w4.cell? ⟨gS, 0, none⟩ = some ((.slice (some ad) l0_0.length aa)) := cT BKS 0; have hzS1 : w4.cell? ⟨gS, 1, none⟩ = some ((.slice ab l0_1.length ac)) := cT BKS 1; have hzN0 : w4.cell? ⟨gN, 0, none⟩ = some ((.string p)) := cT BKN 0; have hzN1 : w4.cell? ⟨gN, 1, none⟩ = some ((.string v)) := cT BKN 1)
    | (go_at_call 36; (with_reducible refine (node_May.calls k p v true _ HY.out).mono ?_); rintro e w5 ⟨rfl, hb⟩; have n0_ := am (below_step HB.out hb); have nS_ := am (blk_below (g := gS) (o := .cells #[(.slice (some ad) l0_0.length aa), (.slice ab l0_1.length ac)] 25 (0, 0)) BKS.out hb); have nN_ := am (blk_below (g := gN) (o := .cells #[(.string p), (.string v)] 27 (0, 0)) BKN.out hb); clear HB BKS BKN hb; have HB := n0_; clear n0_; have BKS := nS_; clear nS_; have BKN := nN_; clear nN_; have hzS0 : w5.cell? ⟨gS, 0, none⟩ = some ((.slice (some ad) l0_0.length aa)) := cT BKS 0; have hzS1 : w5.cell? ⟨gS, 1, none⟩ = some ((.slice ab l0_1.length ac)) := cT BKS 1; have hzN0 : w5.cell? ⟨gN, 0, none⟩ = some ((.string p)) := cT BKN 0; have hzN1 : w5.cell? ⟨gN, 1, none⟩ = some ((.string v)) := cT BKN 1)
    | (go_at_call 37; (with_reducible refine (index_calls k (some ad) aa l0_0 p v i gN _ (Kd.C_below af.out HB.out) BKN.out HI.out).mono ?_); rintro e w6 ⟨rfl, hb⟩; have n0_ := am (below_step HB.out hb); have nS_ := am (blk_below (g := gS) (o := .cells #[(.slice (some ad) l0_0.length aa), (.slice ab l0_1.length ac)] 25 (0, 0)) BKS.out hb); have nN_ := am (blk_below (g := gN) (o := .cells #[(.string p), (.string v)] 27 (0, 0)) BKN.out hb); clear HB BKS BKN hb; have HB := n0_; clear n0_; have BKS := nS_; clear nS_; have BKN := nN_; clear nN_; have hzS0 : w6.cell? ⟨gS, 0, none⟩ = some ((.slice (some ad) l0_0.length aa)) := cT BKS 0; have hzS1 : w6.cell? ⟨gS, 1, none⟩ = some ((.slice ab l0_1.length ac)) := cT BKS 1; have hzN0 : w6.cell? ⟨gN, 0, none⟩ = some ((.string p)) := cT BKN 0; have hzN1 : w6.cell? ⟨gN, 1, none⟩ = some ((.string v)) := cT BKN 1; obtain ⟨ad', ead', hx0, hx1⟩ := at_T27 (Kd.C_below af.out HB.out) i p0 q0; cases ead'; rw [Hn.out] at hx0 hx1; simp only at hx0 hx1))
     go_region
     all_goals
      go_wp2
      (try simp only [Exit.inBlock, Exit.then])
      have hres := results_tmp3 (fn := Tryz.f21) rfl
      refine bodyPost_ret (hres _ _ _) rfl ?_
      exact ⟨rfl, below_drew HB.out⟩
   ·have hb2 : (q.toList == p.toList && u.toList == v.toList) = false := by simp [e1]
    rw [hb2] at h
    obtain ⟨rfl, rfl, rfl⟩ : i = r1 ∧ false = r2 ∧ 0 = r3 := by simpa using h
    clear h hb2
    go_enter Tryz.func21, Tryz.ntmps21
    go_wp2_with (first
    | ((with_reducible refine gtD 2 ?_); refine xBx 2 25 #[(.slice (some ad) l0_0.length aa), (.slice ab l0_1.length ac)] ?_; intro gS hg w2 hbox hb; have BKS := Aside0.mk hbox; clear hbox hg; replace HB := am (below_step HB.out hb); clear hb; obtain ⟨hzS0, hfS0⟩ := bxA BKS; have hzS1 : w2.cell? ⟨gS, 1, none⟩ = some ((.slice ab l0_1.length ac)) := cT BKS 1; have hfS1 := blk_frozen BKS.out 1)
    | ((with_reducible refine gtD 3 ?_); refine xBx 3 27 #[(.string p), (.string v)] ?_; intro gN hg w3 hbox hb; have BKN := Aside0.mk hbox; clear hbox hg; have n0_ := am (below_step HB.out hb); have nS_ := am (blk_below (g := gS) (o := .cells #[(.slice (some ad) l0_0.length aa), (.slice ab l0_1.length ac)] 25 (0, 0)) BKS.out hb); clear HB BKS hb; have HB := n0_; clear n0_; have BKS := nS_; clear nS_; have hzS0 : w3.cell? ⟨gS, 0, none⟩ = some ((.slice (some ad) l0_0.length aa)) := cT BKS 0; have hzS1 : w3.cell? ⟨gS, 1, none⟩ = some ((.slice ab l0_1.length ac)) := cT BKS 1; obtain ⟨hzN0, hfN0⟩ := bxA BKN; have hzN1 : w3.cell? ⟨gN, 1, none⟩ = some ((.string v)) := cT BKN 1; have hfN1 := blk_frozen BKN.out 1)
    | (go_at_call 9; (with_reducible refine (store_Check.calls k (some ad) aa l0_0 ab ac l0_1 0 _ (Kd.C_below af.out HB.out) ah.out (Kd.C_below ag.out HB.out) ai.out HC.out).mono ?_); rintro e w4 ⟨rfl, hb⟩; have n0_ := am (below_step HB.out hb); have nS_ := am (blk_below (g := gS) (o := .cells #[(.slice (some ad) l0_0.length aa), (.slice ab l0_1.length ac)] 25 (0, 0)) BKS.out hb); have nN_ := am (blk_below (g := gN) (o := .cells #[(.string p), (.string v)] 27 (0, 0)) BKN.out hb); clear HB BKS BKN hb; have HB := n0_; clear n0_; have BKS := nS_; clear nS_; have BKN := nN_; clear nN_; have hzS0 : w4.cell? ⟨gS, 0, none⟩ = some ((.slice (some ad) l0_0.length aa)) := cT BKS 0; have hzS1 : w4.cell? ⟨gS, 1, none⟩ = some ((.slice ab l0_1.length ac)) := cT BKS 1; have hzN0 : w4.cell? ⟨gN, 0, none⟩ = some ((.string p)) := cT BKN 0; have hzN1 : w4.cell? ⟨gN, 1, none⟩ = some ((.string v)) := cT BKN 1)
    | (go_at_call 36; (with_reducible refine (node_May.calls k p v true _ HY.out).mono ?_); rintro e w5 ⟨rfl, hb⟩; have n0_ := am (below_step HB.out hb); have nS_ := am (blk_below (g := gS) (o := .cells #[(.slice (some ad) l0_0.length aa), (.slice ab l0_1.length ac)] 25 (0, 0)) BKS.out hb); have nN_ := am (blk_below (g := gN) (o := .cells #[(.string p), (.string v)] 27 (0, 0)) BKN.out hb); clear HB BKS BKN hb; have HB := n0_; clear n0_; have BKS := nS_; clear nS_; have BKN := nN_; clear nN_; have hzS0 : w5.cell? ⟨gS, 0, none⟩ = some ((.slice (some ad) l0_0.length aa)) := cT BKS 0; have hzS1 : w5.cell? ⟨gS, 1, none⟩ = some ((.slice ab l0_1.length ac)) := cT BKS 1; have hzN0 : w5.cell? ⟨gN, 0, none⟩ = some ((.string p)) := cT BKN 0; have hzN1 : w5.cell? ⟨gN, 1, none⟩ = some ((.string v)) := cT BKN 1)
    | (go_at_call 37; (with_reducible refine (index_calls k (some ad) aa l0_0 p v i gN _ (Kd.C_below af.out HB.out) BKN.out HI.out).mono ?_); rintro e w6 ⟨rfl, hb⟩; have n0_ := am (below_step HB.out hb); have nS_ := am (blk_below (g := gS) (o := .cells #[(.slice (some ad) l0_0.length aa), (.slice ab l0_1.length ac)] 25 (0, 0)) BKS.out hb); have nN_ := am (blk_below (g := gN) (o := .cells #[(.string p), (.string v)] 27 (0, 0)) BKN.out hb); clear HB BKS BKN hb; have HB := n0_; clear n0_; have BKS := nS_; clear nS_; have BKN := nN_; clear nN_; have hzS0 : w6.cell? ⟨gS, 0, none⟩ = some ((.slice (some ad) l0_0.length aa)) := cT BKS 0; have hzS1 : w6.cell? ⟨gS, 1, none⟩ = some ((.slice ab l0_1.length ac)) := cT BKS 1; have hzN0 : w6.cell? ⟨gN, 0, none⟩ = some ((.string p)) := cT BKN 0; have hzN1 : w6.cell? ⟨gN, 1, none⟩ = some ((.string v)) := cT BKN 1; obtain ⟨ad', ead', hx0, hx1⟩ := at_T27 (Kd.C_below af.out HB.out) i p0 q0; cases ead'; rw [Hn.out] at hx0 hx1; simp only at hx0 hx1))
    go_region
    all_goals
     go_wp2
     (try simp only [Exit.inBlock, Exit.then])
     have hres := results_tmp3 (fn := Tryz.f21) rfl
     refine bodyPost_ret (hres _ _ _) rfl ?_
     exact ⟨rfl, below_drew HB.out⟩

end Go.Proofs.YtomjppafgalaoaaGreatDoor.P
