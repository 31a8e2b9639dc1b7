-- Written by this project's own program (wip/tools/hp.py), driving the kit's print; hand texts among it. Not trusted: Lean checks it.
import Derived.Test.YtjneghnknfhboaaDoorP0
import Derived.Test.YtjneghnknfhboaaDoorP2
import Derived.Test.YtjneghnknfhboaaDoorP17
import Derived.Test.YtjneghnknfhboaaDoorP20
import Derived.Test.YtjneghnknfhboaaDoorP22
import Derived.Test.YtjneghnknfhboaaDoorP23
import Derived.Test.YtjneghnknfhboaaDoorP24
import Derived.Test.YtjneghnknfhboaaDoorP25
import Derived.Test.YtjneghnknfhboaaDoorP26
namespace Go.Proofs.YtjneghnknfhboaaDoor.P
open Go.RowKit Go.Proofs.YtjneghnknfhboaaDoorW.PrintWords Go.Proofs.YtjneghnknfhboaaDoorW.PrintLast Go.Proofs.YtjneghnknfhboaaDoorW.PrintMore
attribute [local go_sem] max2_int min2_int max_two min_two max_three min_three max_four min_four   -- for this text's walks alone
set_option linter.unusedVariables false
set_option linter.unusedSimpArgs false

-- half the indentation
/-! ### graftwoodlaw10_InternTells: function 6 -/
mutual
def IIT.j0 : Nat → List Int → List (S34) → ByteArray → ByteArray → Option (Bool)
 | 0, _, _, _, _ => none
 | k + 1, x2, aC, aW, aX => (intern_Find.f k aC aW aX).bind fun bt417 => ((intern_Id.f k aC aW aX).bind fun bt419 => ((intern_At.f k aC x2).bind fun bt425 => ((intern_Check.f k aC).bind fun bk => ((graftwoodref10_May.f k aC).bind fun bj => (if ((bk == 0) != bj) = true then (some false) else ((graftwoodref10_May.f k aC).bind fun bs => (if bs = true then (IIT.l0 k x2 bt417.1 bt417.2 bt419.1 bt419.2.2 bt425.1 bt425.2 ([] : List (S34)) false 0 aC aW aX bt419.2.1) else (if bt417.1 = 0 then (if bt417.2 = 1 then (if bt419.1 = 0 then ((graftwoodlaw10_same.f k bt419.2.1 aC).bind fun bq => (if bq = true then (if bt419.2.2 = 1 then (if (bt425.1.length : Int) = 0 then (if bt425.2 = 1 then ((graftwoodlaw10_awake.f k).bind fun bh => (some bh)) else (some false)) else (some false)) else (some false)) else (some false))) else (some false)) else (some false)) else (some false)))))))))
def IIT.l0 : Nat → List Int → Int → Int → Int → Int → List (S34) → Int → List (S34) → Bool → Int → List (S34) → ByteArray → ByteArray → List (S34) → Option (Bool)
 | 0, _, _, _, _, _, _, _, _, _, _, _, _, _, _ => none
 | k + 1, x2, x7, x8, x9, x11, x12, x13, x14, x15, x16, aC, aW, aX, aQ => if x16 < (x2.length : Int) then (if 0 ≤ x16 then (if (rd x2 x16) < 0 then (IIT.l0 k x2 x7 x8 x9 x11 x12 x13 x14 true (wrap64 (x16 + 1)) aC aW aX aQ) else (if (rd x2 x16) ≥ (aC.length : Int) then (IIT.l0 k x2 x7 x8 x9 x11 x12 x13 x14 true (wrap64 (x16 + 1)) aC aW aX aQ) else (if 0 ≤ (rd x2 x16) then (if (rd x2 x16) < (aC.length : Int) then (if x14.length < 4398046511104 then (IIT.l0 k x2 x7 x8 x9 x11 x12 x13 (x14 ++ [(⟨(rd_T34 aC (rd x2 x16)).f0, (rd_T34 aC (rd x2 x16)).f1⟩ : S34)]) x15 (wrap64 (x16 + 1)) aC aW aX aQ) else (none)) else (none)) else (none)))) else (none)) else (if x15 = true then (if (x12.length : Int) > 0 then (IIT.j2 k x7 x8 x9 x11 true aC aW aX aQ) else (if x13 = 2 then (IIT.j2 k x7 x8 x9 x11 false aC aW aX aQ) else (IIT.j2 k x7 x8 x9 x11 true aC aW aX aQ))) else ((graftwoodref05_Same.f k x12 x14).bind fun b_ => (if b_ = true then (IIT.j2 k x7 x8 x9 x11 (x13 != 0) aC aW aX aQ) else (IIT.j2 k x7 x8 x9 x11 true aC aW aX aQ))))
def IIT.j2 : Nat → Int → Int → Int → Int → Bool → List (S34) → ByteArray → ByteArray → List (S34) → Option (Bool)
 | 0, _, _, _, _, _, _, _, _, _ => none
 | k + 1, x7, x8, x9, x11, gO, aC, aW, aX, aQ => if gO = true then (some false) else ((graftwoodref05_May.f k aW aX).bind fun ca => (if ca = true then ((graftwoodref10_Id.f k aC aW aX).bind fun bt445 => ((graftwoodref10_Place.f k aC aW aX).bind fun bi => (if bi < 0 then (if x7 = 0 then (if x8 = 2 then ((graftwoodref10_Place.f k aC aW aX).bind fun bn => (if bn ≥ 0 then (if x7 = bt445.1 then (IIT.j3 k x9 x11 bt445.1 (x8 != 0) aQ bt445.2) else (IIT.j3 k x9 x11 bt445.1 true aQ bt445.2)) else (IIT.j3 k x9 x11 bt445.1 false aQ bt445.2))) else (IIT.j3 k x9 x11 bt445.1 true aQ bt445.2)) else (IIT.j3 k x9 x11 bt445.1 true aQ bt445.2)) else ((graftwoodref10_Place.f k aC aW aX).bind fun bo => (if bo ≥ 0 then (if x7 = bt445.1 then (IIT.j3 k x9 x11 bt445.1 (x8 != 0) aQ bt445.2) else (IIT.j3 k x9 x11 bt445.1 true aQ bt445.2)) else (IIT.j3 k x9 x11 bt445.1 false aQ bt445.2)))))) else (if x7 = 0 then (if x8 = 1 then (if x9 = 0 then ((graftwoodlaw10_same.f k aQ aC).bind fun bH => (if bH = true then (if x11 = 1 then ((graftwoodlaw10_awake.f k).bind fun bt => (some bt)) else (some false)) else (some false))) else (some false)) else (some false)) else (some false))))
def IIT.j3 : Nat → Int → Int → Int → Bool → List (S34) → List (S34) → Option (Bool)
 | 0, _, _, _, _, _, _ => none
 | k + 1, x9, x11, x17, gP, aQ, d9 => if gP = true then (some false) else (if x9 = x17 then ((graftwoodlaw10_same.f k aQ d9).bind fun cb => (if cb = true then (if x11 = 0 then ((graftwoodlaw10_awake.f k).bind fun bI => (some bI)) else (some false)) else (some false))) else (some false))
end
def graftwoodlaw10_InternTells.f (k : Nat) (l0_0 : List (S34)) (a1_0 : ByteArray) (a1_1 : ByteArray) (l2 : List Int) : Option (Bool) := (graftwoodlaw10_Few.f k l0_0).bind fun ae => ((graftwoodlaw05_One.f a1_0 a1_1).bind fun bt410 => (if (l2.length : Int) > 12 then (if 12 ≤ (l2.length : Int) then (IIT.j0 k (l2.take 12) ae bt410.1 bt410.2) else (none)) else (IIT.j0 k l2 ae bt410.1 bt410.2)))
theorem IIT.mono_l : ∀ k, (∀ y0 y1 y2 y3, LeO (IIT.j0 k y0 y1 y2 y3) (IIT.j0 (k + 1) y0 y1 y2 y3)) ∧ (∀ y0 y1 y2 y3 y4 y5 y6 y7 y8 y9 y10 y11 y12 y13, LeO (IIT.l0 k y0 y1 y2 y3 y4 y5 y6 y7 y8 y9 y10 y11 y12 y13) (IIT.l0 (k + 1) y0 y1 y2 y3 y4 y5 y6 y7 y8 y9 y10 y11 y12 y13)) ∧ (∀ y0 y1 y2 y3 y4 y5 y6 y7 y8, LeO (IIT.j2 k y0 y1 y2 y3 y4 y5 y6 y7 y8) (IIT.j2 (k + 1) y0 y1 y2 y3 y4 y5 y6 y7 y8)) ∧ (∀ y0 y1 y2 y3 y4 y5, LeO (IIT.j3 k y0 y1 y2 y3 y4 y5) (IIT.j3 (k + 1) y0 y1 y2 y3 y4 y5))
 | 0 => ⟨fun _ _ _ _ r h => by simp [IIT.j0] at h, fun _ _ _ _ _ _ _ _ _ _ _ _ _ _ r h => by simp [IIT.l0] at h, fun _ _ _ _ _ _ _ _ _ r h => by simp [IIT.j2] at h, fun _ _ _ _ _ _ r h => by simp [IIT.j3] at h⟩
 | k + 1 => by
  obtain ⟨ih0, ih1, ih2, ih3⟩ := IIT.mono_l k
  refine ⟨?_, ?_, ?_, ?_⟩
  ·intro y0 y1 y2 y3
   unfold IIT.j0
   repeat' first
   | (with_reducible exact ih0 _ _ _ _)
   | (with_reducible exact ih1 _ _ _ _ _ _ _ _ _ _ _ _ _ _)
   | (with_reducible exact ih2 _ _ _ _ _ _ _ _ _)
   | (with_reducible exact ih3 _ _ _ _ _ _)
   | (with_reducible exact graftwoodlaw10_Few.mono _ _)
   | (with_reducible exact graftwoodlaw10_awake.mono _)
   | (with_reducible exact graftwoodlaw10_same.mono _ _ _)
   | (with_reducible exact graftwoodref05_May.mono _ _ _)
   | (with_reducible exact graftwoodref05_Same.mono _ _ _)
   | (with_reducible exact graftwoodref10_Id.mono _ _ _ _)
   | (with_reducible exact graftwoodref10_May.mono _ _)
   | (with_reducible exact graftwoodref10_Place.mono _ _ _ _)
   | (with_reducible exact intern_At.mono _ _ _)
   | (with_reducible exact intern_Check.mono _ _)
   | (with_reducible exact intern_Find.mono _ _ _ _)
   | (with_reducible exact intern_Id.mono _ _ _ _)
   | (with_reducible exact LeO.refl _)
   | (with_reducible exact LeO.none _)
   | (with_reducible refine LeO.ite ?_ ?_)
   | (with_reducible refine LeO.bind ?_ (fun _ => ?_))
   | refine LeO.ite ?_ ?_
   | refine LeO.bind ?_ (fun _ => ?_)
  ·intro y0 y1 y2 y3 y4 y5 y6 y7 y8 y9 y10 y11 y12 y13
   unfold IIT.l0
   repeat' first
   | (with_reducible exact ih0 _ _ _ _)
   | (with_reducible exact ih1 _ _ _ _ _ _ _ _ _ _ _ _ _ _)
   | (with_reducible exact ih2 _ _ _ _ _ _ _ _ _)
   | (with_reducible exact ih3 _ _ _ _ _ _)
   | (with_reducible exact graftwoodlaw10_Few.mono _ _)
   | (with_reducible exact graftwoodlaw10_awake.mono _)
   | (with_reducible exact graftwoodlaw10_same.mono _ _ _)
   | (with_reducible exact graftwoodref05_May.mono _ _ _)
   | (with_reducible exact graftwoodref05_Same.mono _ _ _)
   | (with_reducible exact graftwoodref10_Id.mono _ _ _ _)
   | (with_reducible exact graftwoodref10_May.mono _ _)
   | (with_reducible exact graftwoodref10_Place.mono _ _ _ _)
   | (with_reducible exact intern_At.mono _ _ _)
   | (with_reducible exact intern_Check.mono _ _)
   | (with_reducible exact intern_Find.mono _ _ _ _)
   | (with_reducible exact intern_Id.mono _ _ _ _)
   | (with_reducible exact LeO.refl _)
   | (with_reducible exact LeO.none _)
   | (with_reducible refine LeO.ite ?_ ?_)
   | (with_reducible refine LeO.bind ?_ (fun _ => ?_))
   | refine LeO.ite ?_ ?_
   | refine LeO.bind ?_ (fun _ => ?_)
  ·intro y0 y1 y2 y3 y4 y5 y6 y7 y8
   unfold IIT.j2
   repeat' first
   | (with_reducible exact ih0 _ _ _ _)
   | (with_reducible exact ih1 _ _ _ _ _ _ _ _ _ _ _ _ _ _)
   | (with_reducible exact ih2 _ _ _ _ _ _ _ _ _)
   | (with_reducible exact ih3 _ _ _ _ _ _)
   | (with_reducible exact graftwoodlaw10_Few.mono _ _)
   | (with_reducible exact graftwoodlaw10_awake.mono _)
   | (with_reducible exact graftwoodlaw10_same.mono _ _ _)
   | (with_reducible exact graftwoodref05_May.mono _ _ _)
   | (with_reducible exact graftwoodref05_Same.mono _ _ _)
   | (with_reducible exact graftwoodref10_Id.mono _ _ _ _)
   | (with_reducible exact graftwoodref10_May.mono _ _)
   | (with_reducible exact graftwoodref10_Place.mono _ _ _ _)
   | (with_reducible exact intern_At.mono _ _ _)
   | (with_reducible exact intern_Check.mono _ _)
   | (with_reducible exact intern_Find.mono _ _ _ _)
   | (with_reducible exact intern_Id.mono _ _ _ _)
   | (with_reducible exact LeO.refl _)
   | (with_reducible exact LeO.none _)
   | (with_reducible refine LeO.ite ?_ ?_)
   | (with_reducible refine LeO.bind ?_ (fun _ => ?_))
   | refine LeO.ite ?_ ?_
   | refine LeO.bind ?_ (fun _ => ?_)
  ·intro y0 y1 y2 y3 y4 y5
   unfold IIT.j3
   repeat' first
   | (with_reducible exact ih0 _ _ _ _)
   | (with_reducible exact ih1 _ _ _ _ _ _ _ _ _ _ _ _ _ _)
   | (with_reducible exact ih2 _ _ _ _ _ _ _ _ _)
   | (with_reducible exact ih3 _ _ _ _ _ _)
   | (with_reducible exact graftwoodlaw10_Few.mono _ _)
   | (with_reducible exact graftwoodlaw10_awake.mono _)
   | (with_reducible exact graftwoodlaw10_same.mono _ _ _)
   | (with_reducible exact graftwoodref05_May.mono _ _ _)
   | (with_reducible exact graftwoodref05_Same.mono _ _ _)
   | (with_reducible exact graftwoodref10_Id.mono _ _ _ _)
   | (with_reducible exact graftwoodref10_May.mono _ _)
   | (with_reducible exact graftwoodref10_Place.mono _ _ _ _)
   | (with_reducible exact intern_At.mono _ _ _)
   | (with_reducible exact intern_Check.mono _ _)
   | (with_reducible exact intern_Find.mono _ _ _ _)
   | (with_reducible exact intern_Id.mono _ _ _ _)
   | (with_reducible exact LeO.refl _)
   | (with_reducible exact LeO.none _)
   | (with_reducible refine LeO.ite ?_ ?_)
   | (with_reducible refine LeO.bind ?_ (fun _ => ?_))
   | refine LeO.ite ?_ ?_
   | refine LeO.bind ?_ (fun _ => ?_)
theorem graftwoodlaw10_InternTells.mono : ∀ a0 a1 a2 a3 k, LeO (graftwoodlaw10_InternTells.f k a0 a1 a2 a3) (graftwoodlaw10_InternTells.f (k + 1) a0 a1 a2 a3) := by
 intro a0 a1 a2 a3 k
 obtain ⟨ih0, ih1, ih2, ih3⟩ := IIT.mono_l k
 unfold graftwoodlaw10_InternTells.f
 repeat' first
   | (with_reducible exact ih0 _ _ _ _)
   | (with_reducible exact ih1 _ _ _ _ _ _ _ _ _ _ _ _ _ _)
   | (with_reducible exact ih2 _ _ _ _ _ _ _ _ _)
   | (with_reducible exact ih3 _ _ _ _ _ _)
   | (with_reducible exact graftwoodlaw10_Few.mono _ _)
   | (with_reducible exact graftwoodlaw10_awake.mono _)
   | (with_reducible exact graftwoodlaw10_same.mono _ _ _)
   | (with_reducible exact graftwoodref05_May.mono _ _ _)
   | (with_reducible exact graftwoodref05_Same.mono _ _ _)
   | (with_reducible exact graftwoodref10_Id.mono _ _ _ _)
   | (with_reducible exact graftwoodref10_May.mono _ _)
   | (with_reducible exact graftwoodref10_Place.mono _ _ _ _)
   | (with_reducible exact intern_At.mono _ _ _)
   | (with_reducible exact intern_Check.mono _ _)
   | (with_reducible exact intern_Find.mono _ _ _ _)
   | (with_reducible exact intern_Id.mono _ _ _ _)
   | (with_reducible exact LeO.refl _)
   | (with_reducible exact LeO.none _)
   | (with_reducible refine LeO.ite ?_ ?_)
   | (with_reducible refine LeO.bind ?_ (fun _ => ?_))
   | refine LeO.ite ?_ ?_
   | refine LeO.bind ?_ (fun _ => ?_)
def IIT.T16 : Bool × List (List Nat × List Nat) := (true, [([], []), ([], []), ([0, 1], [0, 1]), ([2], [2]), ([3], [3]), ([4], [4]), ([5], [5]), ([5], [5]), ([6, 7, 5], [5, 6, 7]), ([8, 5], [5, 8]), ([5], [5]), ([10, 5], [5, 10]), ([11, 5], [5, 11]), ([9, 12, 5], [5, 9, 12]), ([5, 13], [5, 13])])
def IIT.B16 : List Nat := [0, 0, 3, 7, 15, 31, 63, 63, 255, 511, 63, 1087, 3135, 8191, 16383]
theorem IIT.tab16 : rtab .any (opsOf Tryd.f6 16) = IIT.T16 := by kernel_rfl
theorem IIT.bits16 : waitsOk IIT.T16.2 IIT.B16 = true := by kernel_rfl
def IIT.T18 : Bool × List (List Nat × List Nat) := (true, [([], []), ([], []), ([1], [1]), ([], []), ([], []), ([3, 4], [3, 4]), ([5], [5]), ([2, 6], [2, 6]), ([7], [7]), ([8], [8]), ([0, 9], [0, 9]), ([10, 10, 0, 1, 2, 3, 4, 5, 6, 7, 8, 9, 10], [0, 10])])
def IIT.B18 : List Nat := [0, 0, 2, 0, 0, 24, 56, 126, 254, 510, 1023, 2047]
theorem IIT.tab18 : rtab .any (opsOf Tryd.f6 18) = IIT.T18 := by kernel_rfl
theorem IIT.bits18 : waitsOk IIT.T18.2 IIT.B18 = true := by kernel_rfl
set_option maxHeartbeats 8000000 in
set_option maxRecDepth 100000 in
theorem graftwoodlaw10_InternTells.calls (k : Nat) (bx : Option Addr) (bz : Nat) (l0_0 : List (S34)) (a1_0 : ByteArray) (a1_1 : ByteArray) (P2_ : Nat → Prop) (A2 : Option Addr) (c2 : Nat) (l2 : List Int) (r : Bool) (w : World) (hr0_0 : Kd.C k34 w bx l0_0.length l0_0) (hc0_0 : l0_0.length ≤ bz) (hs2 : Kd.V (Kd.int .i64) 3 w w.heap.size (fun k_ => P2_ k_) (.slice A2 l2.length c2) l2) (h : graftwoodlaw10_InternTells.f k l0_0 a1_0 a1_1 l2 = some r) (hR_ : r = true) :
  Calls Tryd.prog 6 #[.agg #[.slice bx l0_0.length bz], .agg #[.string a1_0, .string a1_1], .slice A2 l2.length c2] w fun e w' => e = .returned (.bool r) ∧ Below w.heap.size w w' := by
 have hu24 := Tryd.underlying24
 have hu34 := Tryd.underlying34
 have fr := Aside0.mk hr0_0
 have fs := Aside0.mk hc0_0
 clear hr0_0 hc0_0
 have HO2 := Aside0.mk (show Kd.V (Kd.int .i64) 3 w w.heap.size (fun k_ => (P2_ k_ ∨ w.heap.size ≤ k_)) (.slice A2 l2.length c2) l2 from Kd.V_mono hs2 (fun k_ hk => .inl hk))
 have HB := Aside0.mk (Below.refl w.heap.size w)
 have H : ((graftwoodlaw10_Few.f k l0_0).bind fun ae => ((graftwoodlaw05_One.f a1_0 a1_1).bind fun bt410 => (if (l2.length : Int) > 12 then (if 12 ≤ (l2.length : Int) then (IIT.j0 k (l2.take 12) ae bt410.1 bt410.2) else (none)) else (IIT.j0 k l2 ae bt410.1 bt410.2)))) = some r := h
 clear h
 replace H := Option.bind_eq_some_iff.mp H
 obtain ⟨ae, A40, H⟩ := H
 replace H : ((graftwoodlaw05_One.f a1_0 a1_1).bind fun bt410 => (if (l2.length : Int) > 12 then (if 12 ≤ (l2.length : Int) then (IIT.j0 k (l2.take 12) ae bt410.1 bt410.2) else (none)) else (IIT.j0 k l2 ae bt410.1 bt410.2))) = some r := H
 have A4 := Aside0.mk A40
 clear A40
 replace H := Option.bind_eq_some_iff.mp H
 obtain ⟨⟨ai, aj⟩, A50, H⟩ := H
 replace H : (if (l2.length : Int) > 12 then (if 12 ≤ (l2.length : Int) then (IIT.j0 k (l2.take 12) ae ai aj) else (none)) else (IIT.j0 k l2 ae ai aj)) = some r := H
 have A5 := Aside0.mk A50
 clear A50
 have HC6 := Aside0.mk H
 clear H
 go_enter Tryd.func6, Tryd.ntmps6
 try go_wp2_with (first | ((with_reducible refine gate_dst (N := 3) rfl ?_); (try (refine gate_guard (by rfl) ?_; dsimp only)); refine box_event ?hg (N := 3) ?hd (cs := #[.slice bx l0_0.length bz]) (t := 24) ?hr ?_; (case hd => rfl); (case hg => rfl); (case hr => first | (go_simp; done) | (go_simp; rfl)); intro ah hg w7 hbox hb; have n0_ := Aside0.mk (Kd.V_below (Kd.V_elderB (by (with_reducible repeat (first | apply Kd.V_alloc | apply Kd.V_drewN | apply Kd.V_drew)); exact HO2.out) ah (Nat.le_of_eq hg.symm)) hb); have n1_ := Aside0.mk (below_step (by repeat (first | (with_reducible first | exact HB.out | apply below_alloc | apply pw_below_drewN | apply below_drew1) | exact HB.out)) hb); have n2_ := Aside0.mk (hbox); have n3_ := Aside0.mk ((by rw [hg]; exact (below_size (by repeat (first | (with_reducible first | exact HB.out | apply below_alloc | apply pw_below_drewN | apply below_drew1) | exact HB.out))) : w.heap.size ≤ ah)); have n4_ := Aside0.mk ((by rw [hg]; exact (below_size (by repeat (first | (with_reducible first | exact HB.out | apply below_alloc | apply pw_below_drewN | apply below_drew1) | exact HB.out))) : w.heap.size ≤ ah)); clear HO2; clear HB; have HO2 := n0_; have HB := n1_; have ac := n2_; have jb := n3_; have an := n4_; clear n0_ n1_ n2_ n3_ n4_; clear hb hbox hg) | ((with_reducible refine gate_dst (N := 4) rfl ?_); (try (refine gate_guard (by rfl) ?_; dsimp only)); refine box_event ?hg (N := 4) ?hd (cs := #[.string a1_0, .string a1_1]) (t := 34) ?hr ?_; (case hd => rfl); (case hg => rfl); (case hr => first | (go_simp; done) | (go_simp; rfl)); intro ag hg w8 hbox hb; have n0_ := Aside0.mk (Kd.V_below (Kd.V_elderB (by (with_reducible repeat (first | apply Kd.V_alloc | apply Kd.V_drewN | apply Kd.V_drew)); exact HO2.out) ag (Nat.le_of_eq hg.symm)) hb); have n1_ := Aside0.mk (blk_below (g := ah) (o := .cells #[.slice bx l0_0.length bz] 24 (0, 0)) (by (with_reducible repeat (first | refine blk_drewN ?_ _ | refine blk_drew ?_ | refine blk_alloc ?_ _)); exact ac.out) hb); have n2_ := Aside0.mk (below_step (by repeat (first | (with_reducible first | exact HB.out | apply below_alloc | apply pw_below_drewN | apply below_drew1 | refine below_set ?_ an.out) | exact HB.out)) hb); have n3_ := Aside0.mk (hbox); have n4_ := Aside0.mk ((by rw [hg]; exact (below_size (by repeat (first | (with_reducible first | exact HB.out | apply below_alloc | apply pw_below_drewN | apply below_drew1 | refine below_set ?_ an.out) | exact HB.out))) : w.heap.size ≤ ag)); have n5_ := Aside0.mk ((by rw [hg]; exact (below_size (by repeat (first | (with_reducible first | exact HB.out | apply below_alloc | apply pw_below_drewN | apply below_drew1 | refine below_set ?_ an.out) | exact HB.out))) : w.heap.size ≤ ag)); have n6_ := Aside0.mk ((by rw [hg]; exact Nat.ne_of_lt (blk_lt (g := ah) (o := .cells #[.slice bx l0_0.length bz] 24 (0, 0)) (by (with_reducible repeat (first | refine blk_drewN ?_ _ | refine blk_drew ?_ | refine blk_alloc ?_ _)); exact ac.out)) : ah ≠ ag)); have n7_ := Aside0.mk ((by rw [hg]; exact Nat.ne_of_gt (blk_lt (g := ah) (o := .cells #[.slice bx l0_0.length bz] 24 (0, 0)) (by (with_reducible repeat (first | refine blk_drewN ?_ _ | refine blk_drew ?_ | refine blk_alloc ?_ _)); exact ac.out)) : ag ≠ ah)); clear HO2; clear ac; clear HB; have HO2 := n0_; have ac := n1_; have HB := n2_; have ab := n3_; have jc := n4_; have ao := n5_; have aH := n6_; have aJ := n7_; clear n0_ n1_ n2_ n3_ n4_ n5_ n6_ n7_; clear hb hbox hg))
 have n0_ := Aside0.mk (Kd.V_drew HO2.out)
 have n1_ := Aside0.mk (blk_drew ac.out)
 have n2_ := Aside0.mk (blk_drew ab.out)
 have n3_ := Aside0.mk (below_drew1 HB.out)
 clear HO2 ac ab HB
 have HO2 := n0_
 have ac := n1_
 have ab := n2_
 have HB := n3_
 clear n0_ n1_ n2_ n3_
 refine start_ (n := 6) (S := fun w' => w'.cell? ⟨ah, 0, none⟩ = some (.slice bx l0_0.length bz) ∧ w'.cell? ⟨ag, 0, none⟩ = some (.string a1_0) ∧ w'.cell? ⟨ag, 1, none⟩ = some (.string a1_1)) (ds := [4, 5]) #[false, false, false, false, false, false] (by kernel_rfl) rfl rfl ⟨(blk_cell ac.out 0).trans rfl, (blk_cell ab.out 0).trans rfl, (blk_cell ab.out 1).trans rfl⟩ (fun hHeld => ?_)
 generalize w8.drew = w9 at HO2 ac ab HB hHeld ⊢
 refine take_ (i := 0) (N := some 19) (v := ?_) (a' := ?_) #[true, false, false, false, false, false] rfl rfl (by kernel_rfl) (fun _ _ _ h => h) (Or.inl ⟨by rfl, ?_⟩) hHeld ?_ ?_
 rotate_left
 ·rintro w' ⟨s0, s1, s2⟩
  go_simp
  with_reducible rfl
 rotate_left
 ·simp only [Act.put, List.setIfInBounds_toArray, List.set_cons_zero, List.set_cons_succ, i64_w, i32_w]
  rfl
 refine take_ (i := 2) (N := some 21) (v := ?_) (a' := ?_) #[true, false, true, false, false, false] rfl rfl (by kernel_rfl) (fun _ _ _ h => h) (Or.inl ⟨by rfl, ?_⟩) hHeld ?_ ?_
 rotate_left
 ·rintro w' ⟨s0, s1, s2⟩
  go_simp
  with_reducible rfl
 rotate_left
 ·simp only [Act.put, List.setIfInBounds_toArray, List.set_cons_zero, List.set_cons_succ, i64_w, i32_w]
  rfl
 refine one_ (i := 1) (N := some 20) #[true, true, true, false, false, false] rfl rfl (by kernel_rfl) (by decide) (fun K hK => ?_)
 refine goes_ Tryd.func8 (by kernel_rfl) rfl #[.agg #[.slice bx l0_0.length bz]] (by rfl) rfl rfl (by (try simp only [List.map_toArray, List.map_cons, List.map_nil]); first | done | rfl | (simp only [List.length_drop, List.length_take]; rfl)) ?_
 with_reducible refine (graftwoodlaw10_Few.calls k _ _ l0_0 ae _ ?side1 ?side2 A4.out).mono ?_
 (case side1 => repeat (first | exact (Kd.C_below fr.out HB.out) | (with_reducible refine Kd.C_alloc ?_ _) | (with_reducible refine Kd.C_drewN ?_ _) | (with_reducible refine Kd.C_drew ?_)))
 (case side2 => exact fs.out)
 rintro e w10 ⟨jw, rfl, ho0, hb⟩
 refine ⟨_, rfl, ?_⟩
 have n0_ := Aside0.mk (Kd.V_elder' (by (with_reducible repeat (first | apply Kd.V_alloc | apply Kd.V_drewN | apply Kd.V_drew)); exact HO2.out) (Kd.R_base ho0) hb)
 have n1_ := Aside0.mk (Kd.R_lower (Kd.R_newB (Kd.R_newM (M := fun k_ => (w.heap.size ≤ k_)) ho0 (below_size (by repeat (first | (with_reducible first | exact HB.out | apply below_alloc | apply pw_below_drewN | apply below_drew1 | refine below_set ?_ an.out | refine below_set ?_ ao.out) | exact HB.out))) (fun k_ h_ => h_)) (g := ag) (o := .cells #[.string a1_0, .string a1_1] 34 (0, 0)) (by (with_reducible repeat (first | refine blk_drewN ?_ _ | refine blk_drew ?_ | refine blk_alloc ?_ _)); exact ab.out)) (below_size (by repeat (first | (with_reducible first | exact HB.out | apply below_alloc | apply pw_below_drewN | apply below_drew1 | refine below_set ?_ an.out | refine below_set ?_ ao.out) | exact HB.out))))
 have n2_ := Aside0.mk (blk_below (g := ah) (o := .cells #[.slice bx l0_0.length bz] 24 (0, 0)) (by (with_reducible repeat (first | refine blk_drewN ?_ _ | refine blk_drew ?_ | refine blk_alloc ?_ _)); exact ac.out) hb)
 have n3_ := Aside0.mk (blk_below (g := ag) (o := .cells #[.string a1_0, .string a1_1] 34 (0, 0)) (by (with_reducible repeat (first | refine blk_drewN ?_ _ | refine blk_drew ?_ | refine blk_alloc ?_ _)); exact ab.out) hb)
 have n4_ := Aside0.mk (below_step (by repeat (first | (with_reducible first | exact HB.out | apply below_alloc | apply pw_below_drewN | apply below_drew1 | refine below_set ?_ an.out | refine below_set ?_ ao.out) | exact HB.out)) hb)
 clear HO2 ac ab HB
 have HO2 := n0_
 have bu := n1_
 have ac := n2_
 have ab := n3_
 have HB := n4_
 clear n0_ n1_ n2_ n3_ n4_
 (try clear hb)
 (try clear hb2)
 (try clear hk)
 (try clear hi)
 (try clear ho0)
 refine hK.out _ _ ⟨(blk_cell ac.out 0).trans rfl, (blk_cell ab.out 0).trans rfl, (blk_cell ab.out 1).trans rfl⟩ (fun hHeld => ?_)
 clear hK K
 refine norm_ (a' := ?_) ?_ ?_
 rotate_left
 ·show Act.put _ (some 20) _ = _
  simp only [Act.put, List.setIfInBounds_toArray, List.set_cons_zero, List.set_cons_succ, i64_w, i32_w]
  rfl
 refine one_ (i := 3) (N := some 22) #[true, true, true, true, false, false] rfl rfl (by kernel_rfl) (by decide) (fun K hK => ?_)
 refine goes_ Tryd.func20 (by kernel_rfl) rfl #[.agg #[.string a1_0, .string a1_1]] (by rfl) rfl rfl (by (try simp only [List.map_toArray, List.map_cons, List.map_nil]); first | done | rfl | (simp only [List.length_drop, List.length_take]; rfl)) ?_
 with_reducible refine (graftwoodlaw05_One.calls a1_0 a1_1 ai aj _ A5.out).mono ?_
 rintro e w11 ⟨rfl, hb⟩
 refine ⟨_, rfl, ?_⟩
 have n0_ := Aside0.mk (Kd.V_below (by (with_reducible repeat (first | apply Kd.V_alloc | apply Kd.V_drewN | apply Kd.V_drew)); exact HO2.out) hb)
 have n1_ := Aside0.mk (Kd.R_below (by (with_reducible repeat (first | apply Kd.R_alloc | apply Kd.R_drewN | apply Kd.R_drew)); exact bu.out) hb)
 have n2_ := Aside0.mk (blk_below (g := ah) (o := .cells #[.slice bx l0_0.length bz] 24 (0, 0)) (by (with_reducible repeat (first | refine blk_drewN ?_ _ | refine blk_drew ?_ | refine blk_alloc ?_ _)); exact ac.out) hb)
 have n3_ := Aside0.mk (blk_below (g := ag) (o := .cells #[.string a1_0, .string a1_1] 34 (0, 0)) (by (with_reducible repeat (first | refine blk_drewN ?_ _ | refine blk_drew ?_ | refine blk_alloc ?_ _)); exact ab.out) hb)
 have n4_ := Aside0.mk (below_step (by repeat (first | (with_reducible first | exact HB.out | apply below_alloc | apply pw_below_drewN | apply below_drew1 | refine below_set ?_ an.out | refine below_set ?_ ao.out) | exact HB.out)) hb)
 clear HO2 bu ac ab HB
 have HO2 := n0_
 have bu := n1_
 have ac := n2_
 have ab := n3_
 have HB := n4_
 clear n0_ n1_ n2_ n3_ n4_
 (try clear hb)
 (try clear hb2)
 (try clear hk)
 (try clear hi)
 obtain ⟨ap, am, ft⟩ := Kd.R_slice bu.out
 (first | subst ft | (injection ft with f1_ f2_ f3_; have f4_ := f1_.symm; have f5_ := f3_.symm; clear f1_ f2_ f3_; subst f4_; subst f5_))
 refine hK.out _ _ ⟨(blk_cell ac.out 0).trans rfl, (blk_cell ab.out 0).trans rfl, (blk_cell ab.out 1).trans rfl⟩ (fun hHeld => ?_)
 clear hK K
 refine norm_ (a' := ?_) ?_ ?_
 rotate_left
 ·show Act.put _ (some 22) _ = _
  simp only [Act.put, List.setIfInBounds_toArray, List.set_cons_zero, List.set_cons_succ, i64_w, i32_w]
  rfl
 refine last_ (i := 4) (N := none) #[true, true, true, true, true, false] rfl rfl (by kernel_rfl) (by decide) (fun K hK => ?_)
 have jx : w11.cell? ⟨ah, 0, none⟩ = some (.slice bx l0_0.length bz) := (blk_cell ac.out 0).trans rfl
 have jd := blk_frozen ac.out 0
 have gs := aJ.out
 have gt := aH.out
 refine skip_ (w1 := ?_) (by rfl) rfl ?_ ?_
 rotate_left
 ·go_simp
  rfl
 refine hK.out _ _ ?_
 clear hK K
 refine last_ (i := 5) (N := none) #[true, true, true, true, true, true] rfl rfl (by kernel_rfl) (by decide) (fun K hK => ?_)
 have jy : w11.cell? ⟨ag, 0, none⟩ = some (.string a1_0) := (blk_cell ab.out 0).trans rfl
 have je := blk_frozen ab.out 0
 have gu := aH.out
 have gv := aJ.out
 have jz : w11.cell? ⟨ag, 1, none⟩ = some (.string a1_1) := (blk_cell ab.out 1).trans rfl
 have jf := blk_frozen ab.out 1
 have gw := aH.out
 have gx := aJ.out
 refine skip_ (w1 := ?_) (by rfl) rfl ?_ ?_
 rotate_left
 ·go_simp
  rfl
 refine hK.out _ _ ?_
 clear hK K
 refine done_ (by kernel_rfl) ?_
 have n0_ : Aside0 (Kd.V (Kd.int .i64) 3 (((w11.setCell ⟨ah, 0, none⟩ (.slice ap ae.length am)).setCell ⟨ag, 0, none⟩ (.string ai)).setCell ⟨ag, 1, none⟩ (.string aj)) w.heap.size (fun k_ => (P2_ k_ ∨ w.heap.size ≤ k_) ∧ some k_ ≠ (.slice ap ae.length am : Value).ownBlock ∧ k_ ≠ ah ∧ k_ ≠ ag) (.slice A2 l2.length c2) l2) := ⟨by (with_reducible repeat (first | apply Kd.V_alloc | apply Kd.V_drewN | apply Kd.V_drew)); exact Kd.V_mono (Kd.V_far (p := ⟨ag, 1, none⟩) (Kd.V_far (p := ⟨ag, 0, none⟩) (Kd.V_far (p := ⟨ah, 0, none⟩) (Kd.V_mono (Kd.V_mono HO2.out (fun k_ hk => (⟨hk, hk.1.1.2⟩ : _ ∧ k_ ≠ ah))) (fun k_ hk => (⟨hk, hk.1.1.2⟩ : _ ∧ k_ ≠ ag))) (fun _ hk => hk.1.2) (.slice ap ae.length am)) (fun _ hk => hk.2) (.string ai)) (fun _ hk => hk.2) (.string aj)) (fun _ hk => ⟨hk.1.1.1.1.1, ⟨hk.1.1.2, ⟨hk.1.1.1.1.2, hk.1.1.1.2⟩⟩⟩)⟩
 have n1_ : Aside0 (Kd.R k34 34 (((w11.setCell ⟨ah, 0, none⟩ (.slice ap ae.length am)).setCell ⟨ag, 0, none⟩ (.string ai)).setCell ⟨ag, 1, none⟩ (.string aj)) w.heap.size (fun k_ => (w.heap.size ≤ k_) ∧ k_ ≠ ag) (.slice ap ae.length am) ae) := ⟨by (with_reducible repeat (first | apply Kd.R_alloc | apply Kd.R_drewN | apply Kd.R_drew)); exact Kd.R_mono (Kd.R_far (p := ⟨ag, 1, none⟩) (Kd.R_far (p := ⟨ag, 0, none⟩) (Kd.R_far (p := ⟨ah, 0, none⟩) (Kd.R_mono (Kd.R_types bu.out ac.out (by decide)) (fun k_ hk => (⟨hk, hk.1.2⟩ : _ ∧ k_ ≠ ag))) (fun _ hk => hk.1.2) (.slice ap ae.length am)) (fun _ hk => hk.2) (.string ai)) (fun _ hk => hk.2) (.string aj)) (fun _ hk => ⟨hk.1.1.1.1, hk.1.1.2⟩)⟩
 have n2_ : Aside0 ((((w11.setCell ⟨ah, 0, none⟩ (.slice ap ae.length am)).setCell ⟨ag, 0, none⟩ (.string ai)).setCell ⟨ag, 1, none⟩ (.string aj)).heap[ah]? = some (.cells #[.slice ap ae.length am] 24 (0, 0))) := ⟨by (with_reducible repeat (first | refine blk_drewN ?_ _ | refine blk_drew ?_ | refine blk_alloc ?_ _)); refine blk_far ?_ aH.out _; (with_reducible repeat (first | refine blk_drewN ?_ _ | refine blk_drew ?_ | refine blk_alloc ?_ _)); refine blk_far ?_ aH.out _; (with_reducible repeat (first | refine blk_drewN ?_ _ | refine blk_drew ?_ | refine blk_alloc ?_ _)); refine blk_put (cs := #[.slice bx l0_0.length bz]) ?_ 0 _ rfl; (with_reducible repeat (first | refine blk_drewN ?_ _ | refine blk_drew ?_ | refine blk_alloc ?_ _)); exact ac.out⟩
 have n3_ : Aside0 ((((w11.setCell ⟨ah, 0, none⟩ (.slice ap ae.length am)).setCell ⟨ag, 0, none⟩ (.string ai)).setCell ⟨ag, 1, none⟩ (.string aj)).heap[ag]? = some (.cells #[.string ai, .string aj] 34 (0, 0))) := ⟨by (with_reducible repeat (first | refine blk_drewN ?_ _ | refine blk_drew ?_ | refine blk_alloc ?_ _)); refine blk_put (cs := #[.string ai, .string a1_1]) ?_ 1 _ rfl; (with_reducible repeat (first | refine blk_drewN ?_ _ | refine blk_drew ?_ | refine blk_alloc ?_ _)); refine blk_put (cs := #[.string a1_0, .string a1_1]) ?_ 0 _ rfl; (with_reducible repeat (first | refine blk_drewN ?_ _ | refine blk_drew ?_ | refine blk_alloc ?_ _)); refine blk_far ?_ aJ.out _; (with_reducible repeat (first | refine blk_drewN ?_ _ | refine blk_drew ?_ | refine blk_alloc ?_ _)); exact ab.out⟩
 have n4_ : Aside0 (Below w.heap.size w (((w11.setCell ⟨ah, 0, none⟩ (.slice ap ae.length am)).setCell ⟨ag, 0, none⟩ (.string ai)).setCell ⟨ag, 1, none⟩ (.string aj))) := ⟨by repeat (first | (with_reducible first | exact HB.out | apply below_alloc | apply pw_below_drewN | apply below_drew1 | refine below_set ?_ an.out | refine below_set ?_ ao.out) | exact HB.out)⟩
 (try clear HO2)
 (try clear bu)
 (try clear ac)
 (try clear ab)
 (try clear HB)
 generalize (((w11.setCell ⟨ah, 0, none⟩ (.slice ap ae.length am)).setCell ⟨ag, 0, none⟩ (.string ai)).setCell ⟨ag, 1, none⟩ (.string aj)) = w16 at n0_ n1_ n2_ n3_ n4_ ⊢
 have HO2 := n0_
 have bu := n1_
 have ac := n2_
 have ab := n3_
 have HB := n4_
 clear n0_ n1_ n2_ n3_ n4_
 go_upto_if 25 with (fail)
 go_cut [2] (fun v2 wc => ∃ (kq : Nat) (aG : List Int), Aside0 (IIT.j0 kq aG ae ai aj = some r) ∧ Aside0 (kq ≤ k) ∧ Aside0 (Kd.V (Kd.int .i64) 3 wc w.heap.size (fun k_ => (P2_ k_ ∨ w.heap.size ≤ k_) ∧ some k_ ≠ ((.slice ap ae.length am) : Value).ownBlock ∧ k_ ≠ ah ∧ k_ ≠ ag) v2 aG) ∧ Aside0 (Kd.R k34 34 wc w.heap.size (fun k_ => (w.heap.size ≤ k_) ∧ k_ ≠ ag) (.slice ap ae.length am) ae) ∧ Aside0 (wc.heap[ah]? = some (.cells #[(.slice ap ae.length am)] 24 (0, 0))) ∧ Aside0 (wc.heap[ag]? = some (.cells #[.string ai, .string aj] 34 (0, 0))) ∧ Aside0 (Below w.heap.size w wc))
 case first =>
  have H := HC6.out
  clear HC6
  by_cases c17 : (l2.length : Int) > 12
  ·rw [if_pos c17] at H
   have bF : decide (12 < (l2.length : Int)) = true := decide_eq_true c17
   have cd : decide (12 < l2.length) = true := decide_eq_true (by omega)
   clear c17
   (first | rw [bF] | (simp only [i64_w, i32_w]; rw [bF]) | skip)
   by_cases c18 : 12 ≤ (l2.length : Int)
   ·rw [if_pos c18] at H
    have eA := eq_true c18
    have eB : decide (12 ≤ (l2.length : Int)) = true := decide_eq_true c18
    clear c18
    obtain ⟨cc, bM⟩ : ∃ y_ : List Int, y_ = (l2.take 12) := ⟨_, rfl⟩
    replace H : (IIT.j0 k cc ae ai aj) = some r := by first | (rw [bM]; with_reducible exact H) | (have H2_ := (Option.bind_some _ _).symm.trans H; rw [bM]; with_reducible exact H2_) | (have H2_ := (Option.bind_some _ _).symm.trans H; with_reducible exact H2_) | with_reducible exact H | (rw [bM]; exact H) | exact H
    have Ny412 := Aside0.mk bM
    clear bM
    have H' := Aside0.mk H
    clear H
    have q19 : (12 : Int) ≤ ((l2.length : Int) : Int) := of_decide_eq_true (by first | (with_reducible assumption) | assumption)
    obtain ⟨i019, hi019, _, hsz19, _⟩ := info_parts info3
    have hroom19 : l2.length ≤ c2 := (Kd.V_reads' HO2.out).2.1
    have hC19 : Kd.F (Kd.int .i64) _ _ A2 l2.length l2 := (Kd.V_at (base := w.heap.size) HO2.out).2.2
    have hcut19 := cut_to (P := Tryd.prog) 27 3 .i64 Tryd.underlying27 hi019 A2 l2.length c2 12 (by omega) q19 hroom19
    have hr19 := Kd.F_take (m := 12) hC19 (by omega)
    have eR : cc.length = (12 : Int).toNat := (by rw [Ny412.out, List.length_take]; omega)
    rw [← Ny412.out] at hr19
    rw [← eR] at hcut19
    have fu := Aside0.mk (show Kd.V (Kd.int .i64) 3 _ w.heap.size _ (.slice A2 cc.length c2) cc from Kd.V_mk (by omega) hr19)
    have jg := Aside0.mk (show cc.length ≤ c2 from by omega)
    clear hr19 hC19 hroom19 hi019 hsz19
    have KY19 := Aside0.mk eR
    clear eR
    replace q19 := eq_true q19
    go_wp2
    go_meet
    case rel => exact ⟨_, (cc), H', ⟨by first | omega | exact Nat.le_refl _⟩, ⟨by (with_reducible repeat (first | apply Kd.V_alloc | apply Kd.V_drewN | apply Kd.V_drew)); exact fu.out⟩, ⟨by (with_reducible repeat (first | apply Kd.R_alloc | apply Kd.R_drewN | apply Kd.R_drew)); exact bu.out⟩, ⟨by (with_reducible repeat (first | refine blk_drewN ?_ _ | refine blk_drew ?_ | refine blk_alloc ?_ _)); exact ac.out⟩, ⟨by (with_reducible repeat (first | refine blk_drewN ?_ _ | refine blk_drew ?_ | refine blk_alloc ?_ _)); exact ab.out⟩, ⟨by repeat (first | (with_reducible first | exact HB.out | apply below_alloc | apply pw_below_drewN | apply below_drew1 | refine below_set ?_ an.out | refine below_set ?_ ao.out) | exact HB.out)⟩⟩
   ·rw [if_neg c18] at H
    exact absurd H (by simp)
  ·rw [if_neg c17] at H
   have bF : decide (12 < (l2.length : Int)) = false := decide_eq_false c17
   have cd : decide (12 < l2.length) = false := decide_eq_false (by omega)
   clear c17
   (first | rw [bF] | (simp only [i64_w, i32_w]; rw [bF]) | skip)
   have H' := Aside0.mk H
   clear H
   go_wp2
   go_meet
   case rel => exact ⟨_, (l2), H', ⟨by first | omega | exact Nat.le_refl _⟩, ⟨by (with_reducible repeat (first | apply Kd.V_alloc | apply Kd.V_drewN | apply Kd.V_drew)); exact HO2.out⟩, ⟨by (with_reducible repeat (first | apply Kd.R_alloc | apply Kd.R_drewN | apply Kd.R_drew)); exact bu.out⟩, ⟨by (with_reducible repeat (first | refine blk_drewN ?_ _ | refine blk_drew ?_ | refine blk_alloc ?_ _)); exact ac.out⟩, ⟨by (with_reducible repeat (first | refine blk_drewN ?_ _ | refine blk_drew ?_ | refine blk_alloc ?_ _)); exact ab.out⟩, ⟨by repeat (first | (with_reducible first | exact HB.out | apply below_alloc | apply pw_below_drewN | apply below_drew1 | refine below_set ?_ an.out | refine below_set ?_ ao.out) | exact HB.out)⟩⟩
 case rest =>
  clear HC6
  try clear c1
  try clear q1
  try clear c2
  try clear p2
  try clear c6
  try clear c8
  try clear c17
  try clear bF
  try clear cd
  try clear c18
  try clear eA
  try clear eB
  try clear q19
  try clear q19
  obtain ⟨kq, aG, HA, HJ5, aw, aa, ac, ab, HB⟩ := hcut
  cases kq with
  | zero => exact absurd HA.out (by simp [IIT.j0])
  | succ kj5 =>
   have H := HA.out
   clear HA
   simp only [IIT.j0] at H
   replace H := Option.bind_eq_some_iff.mp H
   obtain ⟨⟨aA, aE⟩, fv, H⟩ := H
   replace H : ((intern_Id.f kj5 ae ai aj).bind fun bt419 => ((intern_At.f kj5 ae aG).bind fun bt425 => ((intern_Check.f kj5 ae).bind fun bk => ((graftwoodref10_May.f kj5 ae).bind fun bj => (if ((bk == 0) != bj) = true then (some false) else ((graftwoodref10_May.f kj5 ae).bind fun bs => (if bs = true then (IIT.l0 kj5 aG aA aE bt419.1 bt419.2.2 bt425.1 bt425.2 ([] : List (S34)) false 0 ae ai aj bt419.2.1) else (if aA = 0 then (if aE = 1 then (if bt419.1 = 0 then ((graftwoodlaw10_same.f kj5 bt419.2.1 ae).bind fun bq => (if bq = true then (if bt419.2.2 = 1 then (if (bt425.1.length : Int) = 0 then (if bt425.2 = 1 then ((graftwoodlaw10_awake.f kj5).bind fun bh => (some bh)) else (some false)) else (some false)) else (some false)) else (some false))) else (some false)) else (some false)) else (some false))))))))) = some r := H
   have A20 := Aside0.mk fv
   clear fv
   replace H := Option.bind_eq_some_iff.mp H
   obtain ⟨⟨ax, ak, ar⟩, fw, H⟩ := H
   replace H : ((intern_At.f kj5 ae aG).bind fun bt425 => ((intern_Check.f kj5 ae).bind fun bk => ((graftwoodref10_May.f kj5 ae).bind fun bj => (if ((bk == 0) != bj) = true then (some false) else ((graftwoodref10_May.f kj5 ae).bind fun bs => (if bs = true then (IIT.l0 kj5 aG aA aE ax ar bt425.1 bt425.2 ([] : List (S34)) false 0 ae ai aj ak) else (if aA = 0 then (if aE = 1 then (if ax = 0 then ((graftwoodlaw10_same.f kj5 ak ae).bind fun bq => (if bq = true then (if ar = 1 then (if (bt425.1.length : Int) = 0 then (if bt425.2 = 1 then ((graftwoodlaw10_awake.f kj5).bind fun bh => (some bh)) else (some false)) else (some false)) else (some false)) else (some false))) else (some false)) else (some false)) else (some false)))))))) = some r := H
   have A21 := Aside0.mk fw
   clear fw
   replace H := Option.bind_eq_some_iff.mp H
   obtain ⟨⟨bc, be⟩, fx, H⟩ := H
   replace H : ((intern_Check.f kj5 ae).bind fun bk => ((graftwoodref10_May.f kj5 ae).bind fun bj => (if ((bk == 0) != bj) = true then (some false) else ((graftwoodref10_May.f kj5 ae).bind fun bs => (if bs = true then (IIT.l0 kj5 aG aA aE ax ar bc be ([] : List (S34)) false 0 ae ai aj ak) else (if aA = 0 then (if aE = 1 then (if ax = 0 then ((graftwoodlaw10_same.f kj5 ak ae).bind fun bq => (if bq = true then (if ar = 1 then (if (bc.length : Int) = 0 then (if be = 1 then ((graftwoodlaw10_awake.f kj5).bind fun bh => (some bh)) else (some false)) else (some false)) else (some false)) else (some false))) else (some false)) else (some false)) else (some false))))))) = some r := H
   have A22 := Aside0.mk fx
   clear fx
   replace H := Option.bind_eq_some_iff.mp H
   obtain ⟨bk, fy, H⟩ := H
   replace H : ((graftwoodref10_May.f kj5 ae).bind fun bj => (if ((bk == 0) != bj) = true then (some false) else ((graftwoodref10_May.f kj5 ae).bind fun bs => (if bs = true then (IIT.l0 kj5 aG aA aE ax ar bc be ([] : List (S34)) false 0 ae ai aj ak) else (if aA = 0 then (if aE = 1 then (if ax = 0 then ((graftwoodlaw10_same.f kj5 ak ae).bind fun bq => (if bq = true then (if ar = 1 then (if (bc.length : Int) = 0 then (if be = 1 then ((graftwoodlaw10_awake.f kj5).bind fun bh => (some bh)) else (some false)) else (some false)) else (some false)) else (some false))) else (some false)) else (some false)) else (some false)))))) = some r := H
   have A23 := Aside0.mk fy
   clear fy
   replace H := Option.bind_eq_some_iff.mp H
   obtain ⟨bj, d_, H⟩ := H
   replace H : (if ((bk == 0) != bj) = true then (some false) else ((graftwoodref10_May.f kj5 ae).bind fun bs => (if bs = true then (IIT.l0 kj5 aG aA aE ax ar bc be ([] : List (S34)) false 0 ae ai aj ak) else (if aA = 0 then (if aE = 1 then (if ax = 0 then ((graftwoodlaw10_same.f kj5 ak ae).bind fun bq => (if bq = true then (if ar = 1 then (if (bc.length : Int) = 0 then (if be = 1 then ((graftwoodlaw10_awake.f kj5).bind fun bh => (some bh)) else (some false)) else (some false)) else (some false)) else (some false))) else (some false)) else (some false)) else (some false))))) = some r := H
   have A24 := Aside0.mk d_
   clear d_
   by_cases c25 : ((bk == 0) != bj) = true
   ·rw [if_pos c25] at H
    have eC : ((bk == 0) != bj) = true := c25
    (try (have eD : decide ((bk == 0) = bj) = false := by simpa using c25))
    (try (have eE : ((bk == 0) == bj) = false := by simpa using c25))
    (try (have jh : ¬ ((bk == 0) = bj) := by simpa using c25))
    clear c25
    exact absurd ((Option.some.inj H).trans hR_) (by decide)
   ·as_aux_lemma =>
    rw [if_neg c25] at H
    have eC : ((bk == 0) != bj) = false := by simpa using c25
    (try (have eD : decide ((bk == 0) = bj) = true := by simpa using c25))
    (try (have eE : ((bk == 0) == bj) = true := by simpa using c25))
    clear c25
    replace H := Option.bind_eq_some_iff.mp H
    obtain ⟨bs, fz, H⟩ := H
    replace H : (if bs = true then (IIT.l0 kj5 aG aA aE ax ar bc be ([] : List (S34)) false 0 ae ai aj ak) else (if aA = 0 then (if aE = 1 then (if ax = 0 then ((graftwoodlaw10_same.f kj5 ak ae).bind fun bq => (if bq = true then (if ar = 1 then (if (bc.length : Int) = 0 then (if be = 1 then ((graftwoodlaw10_awake.f kj5).bind fun bh => (some bh)) else (some false)) else (some false)) else (some false)) else (some false))) else (some false)) else (some false)) else (some false))) = some r := H
    have A44 := Aside0.mk fz
    clear fz
    by_cases c45 : bs = true
    ·subst c45
     have H1 : (IIT.l0 kj5 aG aA aE ax ar bc be ([] : List (S34)) false 0 ae ai aj ak) = some r := by rw [if_pos rfl] at H; exact H
     clear H
     have H := H1
     clear H1
     have H' := Aside0.mk H
     clear H
     have ji := aH.out
     have jj := aJ.out
     have ea : wc.cell? ⟨ah, 0, none⟩ = some (.slice ap ae.length am) := (blk_cell ac.out 0).trans rfl
     have eb := blk_frozen ac.out 0
     have ec : wc.cell? ⟨ag, 0, none⟩ = some (.string ai) := (blk_cell ab.out 0).trans rfl
     have ed : wc.cell? ⟨ag, 1, none⟩ = some (.string aj) := (blk_cell ab.out 1).trans rfl
     have ee := blk_frozen ab.out 0
     have ef := blk_frozen ab.out 1
     try go_wp2_with (first | ((with_reducible refine gate_callee (f := 21) rfl ?_); refine goesL_ (some 31) rfl rfl Tryd.func21 (by kernel_rfl) rfl #[.agg #[.slice ap ae.length am], .agg #[.string ai, .string aj]] rfl (by (try simp only [List.map_toArray, List.map_cons, List.map_nil]); first | done | rfl | (simp only [List.length_drop, List.length_take]; rfl)) ?_; (with_reducible refine (intern_Find.calls kj5 _ _ ae ai aj aA aE _ ?side1 ?side2 A20.out).mono ?_); (case side1 => repeat (first | exact (Kd.R_reads' aa.out).2.2 | (with_reducible refine Kd.C_alloc ?_ _) | (with_reducible refine Kd.C_drewN ?_ _) | (with_reducible refine Kd.C_drew ?_))); (case side2 => exact (Kd.R_reads' aa.out).2.1); rintro e w49 ⟨rfl, hb⟩; refine ⟨_, rfl, ?_⟩; have n0_ := Aside0.mk (Kd.V_below (by (with_reducible repeat (first | apply Kd.V_alloc | apply Kd.V_drewN | apply Kd.V_drew)); exact aw.out) hb); have n1_ := Aside0.mk (Kd.R_below (by (with_reducible repeat (first | apply Kd.R_alloc | apply Kd.R_drewN | apply Kd.R_drew)); exact aa.out) hb); have n2_ := Aside0.mk (blk_below (g := ah) (o := .cells #[.slice ap ae.length am] 24 (0, 0)) (by (with_reducible repeat (first | refine blk_drewN ?_ _ | refine blk_drew ?_ | refine blk_alloc ?_ _)); exact ac.out) hb); have n3_ := Aside0.mk (blk_below (g := ag) (o := .cells #[.string ai, .string aj] 34 (0, 0)) (by (with_reducible repeat (first | refine blk_drewN ?_ _ | refine blk_drew ?_ | refine blk_alloc ?_ _)); exact ab.out) hb); have n4_ := Aside0.mk (below_step (by repeat (first | (with_reducible first | exact HB.out | apply below_alloc | apply pw_below_drewN | apply below_drew1 | refine below_set ?_ an.out | refine below_set ?_ ao.out) | exact HB.out)) hb); clear aw; clear aa; clear ac; clear ab; clear HB; have aw := n0_; have aa := n1_; have ac := n2_; have ab := n3_; have HB := n4_; clear n0_ n1_ n2_ n3_ n4_; (try clear hb); (try clear hb2); (try clear hk); (try clear hi); have eg : w49.cell? ⟨ah, 0, none⟩ = some (.slice ap ae.length am) := (blk_cell ac.out 0).trans rfl; have eh := blk_frozen ac.out 0; have ei : w49.cell? ⟨ag, 0, none⟩ = some (.string ai) := (blk_cell ab.out 0).trans rfl; have ej : w49.cell? ⟨ag, 1, none⟩ = some (.string aj) := (blk_cell ab.out 1).trans rfl; have ek := blk_frozen ab.out 0; have el := blk_frozen ab.out 1) | ((with_reducible refine gate_callee (f := 22) rfl ?_); refine goesL_ (some 37) rfl rfl Tryd.func22 (by kernel_rfl) rfl #[.agg #[.slice ap ae.length am], .agg #[.string ai, .string aj]] rfl (by (try simp only [List.map_toArray, List.map_cons, List.map_nil]); first | done | rfl | (simp only [List.length_drop, List.length_take]; rfl)) ?_; (with_reducible refine (intern_Id.calls kj5 (fun k_ => some k_ = (.slice ap ae.length am : Value).ownBlock) _ _ ae ai aj ax ak ar _ ?side1 A21.out).mono ?_); (case side1 => exact Kd.R_V (Kd.R_tight rfl (Kd.R_types (aa.out) ac.out (by decide)))); rintro e w52 ⟨gQ, rfl, ho0, hb⟩; refine ⟨_, rfl, ?_⟩; have n0_ := Aside0.mk (Kd.V_below (by (with_reducible repeat (first | apply Kd.V_alloc | apply Kd.V_drewN | apply Kd.V_drew)); exact aw.out) hb); have n1_ := Aside0.mk (Kd.R_below (by (with_reducible repeat (first | apply Kd.R_alloc | apply Kd.R_drewN | apply Kd.R_drew)); exact aa.out) hb); have n2_ := Aside0.mk (Kd.V_lower (Kd.V_mono (ok' := fun k_ => (P2_ k_ ∨ w.heap.size ≤ k_) ∧ k_ ≠ ah ∧ k_ ≠ ag) ho0 (fun k_ hk_ => ⟨Or.elim hk_ (fun hs_ => (.inr (((Kd.R_types (aa.out) ac.out (by decide)).1 k_ hs_.symm).1.1))) (fun hn_ => (.inr (Nat.le_trans (below_size (by repeat (first | (with_reducible first | exact HB.out | apply below_alloc | apply pw_below_drewN | apply below_drew1 | refine below_set ?_ an.out | refine below_set ?_ ao.out) | exact HB.out))) hn_))), Or.elim hk_ (fun hs_ => ((Kd.R_types (aa.out) ac.out (by decide)).1 k_ hs_.symm).2) (fun hn_ => (Kd.freshB (g := ah) (o := .cells #[.slice ap ae.length am] 24 (0, 0)) (by (with_reducible repeat (first | refine blk_drewN ?_ _ | refine blk_drew ?_ | refine blk_alloc ?_ _)); exact ac.out) k_ hn_)), Or.elim hk_ (fun hs_ => ((Kd.R_types (aa.out) ac.out (by decide)).1 k_ hs_.symm).1.2) (fun hn_ => (Kd.freshB (g := ag) (o := .cells #[.string ai, .string aj] 34 (0, 0)) (by (with_reducible repeat (first | refine blk_drewN ?_ _ | refine blk_drew ?_ | refine blk_alloc ?_ _)); exact ab.out) k_ hn_))⟩)) (below_size (by repeat (first | (with_reducible first | exact HB.out | apply below_alloc | apply pw_below_drewN | apply below_drew1 | refine below_set ?_ an.out | refine below_set ?_ ao.out) | exact HB.out)))); have n3_ := Aside0.mk (blk_below (g := ah) (o := .cells #[.slice ap ae.length am] 24 (0, 0)) (by (with_reducible repeat (first | refine blk_drewN ?_ _ | refine blk_drew ?_ | refine blk_alloc ?_ _)); exact ac.out) hb); have n4_ := Aside0.mk (blk_below (g := ag) (o := .cells #[.string ai, .string aj] 34 (0, 0)) (by (with_reducible repeat (first | refine blk_drewN ?_ _ | refine blk_drew ?_ | refine blk_alloc ?_ _)); exact ab.out) hb); have n5_ := Aside0.mk (below_step (by repeat (first | (with_reducible first | exact HB.out | apply below_alloc | apply pw_below_drewN | apply below_drew1 | refine below_set ?_ an.out | refine below_set ?_ ao.out) | exact HB.out)) hb); clear aw; clear aa; clear ac; clear ab; clear HB; have aw := n0_; have aa := n1_; have az := n2_; have ac := n3_; have ab := n4_; have HB := n5_; clear n0_ n1_ n2_ n3_ n4_ n5_; (try clear hb); (try clear hb2); (try clear hk); (try clear hi); (try clear ho0)) | ((with_reducible refine gate_dst (N := 10) rfl ?_); (try (refine gate_guard (by rfl) ?_; dsimp only)); refine box_event ?hg (N := 10) ?hd (cs := #[.slice none 0 0]) (t := 24) ?hr ?_; (case hd => rfl); (case hg => rfl); (case hr => first | (go_simp; done) | (go_simp; rfl)); intro al hg w53 hbox hb; have n0_ := Aside0.mk (Kd.V_below (Kd.V_elderB (by (with_reducible repeat (first | apply Kd.V_alloc | apply Kd.V_drewN | apply Kd.V_drew)); exact aw.out) al (Nat.le_of_eq hg.symm)) hb); have n1_ := Aside0.mk (Kd.R_below (by (with_reducible repeat (first | apply Kd.R_alloc | apply Kd.R_drewN | apply Kd.R_drew)); exact aa.out) hb); have n2_ := Aside0.mk (Kd.V_below (Kd.V_elderB (by (with_reducible repeat (first | apply Kd.V_alloc | apply Kd.V_drewN | apply Kd.V_drew)); exact az.out) al (Nat.le_of_eq hg.symm)) hb); have n3_ := Aside0.mk (blk_below (g := ah) (o := .cells #[.slice ap ae.length am] 24 (0, 0)) (by (with_reducible repeat (first | refine blk_drewN ?_ _ | refine blk_drew ?_ | refine blk_alloc ?_ _)); exact ac.out) hb); have n4_ := Aside0.mk (blk_below (g := ag) (o := .cells #[.string ai, .string aj] 34 (0, 0)) (by (with_reducible repeat (first | refine blk_drewN ?_ _ | refine blk_drew ?_ | refine blk_alloc ?_ _)); exact ab.out) hb); have n5_ := Aside0.mk (below_step (by repeat (first | (with_reducible first | exact HB.out | apply below_alloc | apply pw_below_drewN | apply below_drew1 | refine below_set ?_ an.out | refine below_set ?_ ao.out) | exact HB.out)) hb); have n6_ := Aside0.mk (hbox); have n7_ := Aside0.mk ((by rw [hg]; exact (below_size (by repeat (first | (with_reducible first | exact HB.out | apply below_alloc | apply pw_below_drewN | apply below_drew1 | refine below_set ?_ an.out | refine below_set ?_ ao.out) | exact HB.out))) : w.heap.size ≤ al)); have n8_ := Aside0.mk ((by rw [hg]; exact (below_size (by repeat (first | (with_reducible first | exact HB.out | apply below_alloc | apply pw_below_drewN | apply below_drew1 | refine below_set ?_ an.out | refine below_set ?_ ao.out) | exact HB.out))) : w.heap.size ≤ al)); have n9_ := Aside0.mk ((by rw [hg]; exact Nat.ne_of_lt (blk_lt (g := ah) (o := .cells #[.slice ap ae.length am] 24 (0, 0)) (by (with_reducible repeat (first | refine blk_drewN ?_ _ | refine blk_drew ?_ | refine blk_alloc ?_ _)); exact ac.out)) : ah ≠ al)); have n10_ := Aside0.mk ((by rw [hg]; exact Nat.ne_of_gt (blk_lt (g := ah) (o := .cells #[.slice ap ae.length am] 24 (0, 0)) (by (with_reducible repeat (first | refine blk_drewN ?_ _ | refine blk_drew ?_ | refine blk_alloc ?_ _)); exact ac.out)) : al ≠ ah)); have n11_ := Aside0.mk ((by rw [hg]; exact Nat.ne_of_lt (blk_lt (g := ag) (o := .cells #[.string ai, .string aj] 34 (0, 0)) (by (with_reducible repeat (first | refine blk_drewN ?_ _ | refine blk_drew ?_ | refine blk_alloc ?_ _)); exact ab.out)) : ag ≠ al)); have n12_ := Aside0.mk ((by rw [hg]; exact Nat.ne_of_gt (blk_lt (g := ag) (o := .cells #[.string ai, .string aj] 34 (0, 0)) (by (with_reducible repeat (first | refine blk_drewN ?_ _ | refine blk_drew ?_ | refine blk_alloc ?_ _)); exact ab.out)) : al ≠ ag)); clear aw; clear aa; clear az; clear ac; clear ab; clear HB; have aw := n0_; have aa := n1_; have az := n2_; have ac := n3_; have ab := n4_; have HB := n5_; have af := n6_; have fA := n7_; have au := n8_; have aK := n9_; have aR := n10_; have aD := n11_; have aU := n12_; clear n0_ n1_ n2_ n3_ n4_ n5_ n6_ n7_ n8_ n9_ n10_ n11_ n12_; clear hb hbox hg; obtain ⟨aY, aZ, gR⟩ := Kd.V_slice az.out; subst gR; have jk := aR.out; have jl := aK.out; have jm := aU.out; have jn := aD.out; have em : w53.cell? ⟨al, 0, none⟩ = some (.slice none 0 0) := (blk_cell af.out 0).trans rfl; have en := blk_frozen af.out 0; have eo : w53.cell? ⟨ah, 0, none⟩ = some (.slice ap ae.length am) := (blk_cell ac.out 0).trans rfl; have ep := blk_frozen ac.out 0; obtain ⟨fB, eS, gS⟩ := Kd.V_slice aw.out; subst gS) | ((with_reducible refine gate_callee (f := 18) rfl ?_); refine goesL_ (some 44) rfl rfl Tryd.func18 (by kernel_rfl) rfl #[.agg #[.slice ap ae.length am], .slice fB aG.length eS] rfl (by (try simp only [List.map_toArray, List.map_cons, List.map_nil]); first | done | rfl | (simp only [List.length_drop, List.length_take]; rfl)) ?_; (with_reducible refine (intern_At.calls kj5 _ _ ae _ _ aG bc be _ ?side1 ?side2 ?side3 ?side4 A22.out).mono ?_); (case side1 => refine (Kd.R_reads' (e := 34) (base := w.heap.size) (ok := fun k_ => ((w.heap.size ≤ k_) ∧ k_ ≠ ag)) (n := ae.length) (c := am) ?_).2.2; exact (by (with_reducible repeat (first | apply Kd.R_alloc | apply Kd.R_drewN | apply Kd.R_drew)); exact (Kd.R_mono (Kd.R_far (p := ⟨al, 0, none⟩) (Kd.R_types aa.out af.out (by decide)) (fun _ hk => hk.2) (.slice aY ak.length aZ)) (fun _ h_ => h_.1)))); (case side2 => exact (Kd.R_reads' aa.out).2.1); (case side3 => refine (Kd.V_reads' (e := 3) (base := w.heap.size) (ok := fun k_ => (((P2_ k_ ∨ w.heap.size ≤ k_) ∧ (some k_ ≠ (.slice ap ae.length am : Value).ownBlock ∧ (k_ ≠ ah ∧ k_ ≠ ag))) ∧ k_ ≠ al)) (n := aG.length) (c := eS) ?_).2.2; exact (by (with_reducible repeat (first | apply Kd.V_alloc | apply Kd.V_drewN | apply Kd.V_drew)); exact (Kd.V_mono (Kd.V_far (p := ⟨al, 0, none⟩) (Kd.V_mono aw.out (fun k_ hk => (⟨hk, hk.2⟩ : _ ∧ k_ ≠ al))) (fun _ hk => hk.2) (.slice aY ak.length aZ)) (fun _ h_ => h_.1)))); (case side4 => exact (Kd.V_reads' aw.out).2.1); rintro e w60 ⟨bJ, rfl, ho0, hb⟩; refine ⟨_, rfl, ?_⟩; have n0_ := Aside0.mk (Kd.V_elder' (by (with_reducible repeat (first | apply Kd.V_alloc | apply Kd.V_drewN | apply Kd.V_drew)); exact (Kd.V_mono (Kd.V_far (p := ⟨al, 0, none⟩) (Kd.V_mono aw.out (fun k_ hk => (⟨hk, hk.2⟩ : _ ∧ k_ ≠ al))) (fun _ hk => hk.2) (.slice aY ak.length aZ)) (fun _ h_ => h_.1))) (Kd.R_base ho0) hb); have n1_ := Aside0.mk (Kd.R_elder' (by (with_reducible repeat (first | apply Kd.R_alloc | apply Kd.R_drewN | apply Kd.R_drew)); exact (Kd.R_mono (Kd.R_far (p := ⟨al, 0, none⟩) (Kd.R_types aa.out af.out (by decide)) (fun _ hk => hk.2) (.slice aY ak.length aZ)) (fun _ h_ => h_.1))) (Kd.R_base ho0) hb); have n2_ := Aside0.mk (Kd.V_elder' (by (with_reducible repeat (first | apply Kd.V_alloc | apply Kd.V_drewN | apply Kd.V_drew)); exact (Kd.V_mono (Kd.V_far (p := ⟨al, 0, none⟩) (Kd.V_mono az.out (fun k_ hk => (⟨hk, hk.2⟩ : _ ∧ k_ ≠ al))) (fun _ hk => hk.2) (.slice aY ak.length aZ)) (fun _ h_ => h_.1))) (Kd.R_base ho0) hb); have n3_ := Aside0.mk (Kd.R_lower (Kd.R_newB (Kd.R_new' (Kd.R_newM (M := fun k_ => (w.heap.size ≤ k_)) ho0 (below_size (by repeat (first | (with_reducible first | exact HB.out | apply below_alloc | apply pw_below_drewN | apply below_drew1 | refine below_set ?_ an.out | refine below_set ?_ ao.out | refine below_set ?_ au.out) | exact HB.out))) (fun k_ h_ => h_)) (Kd.R_lt (by (with_reducible repeat (first | apply Kd.R_alloc | apply Kd.R_drewN | apply Kd.R_drew)); exact (Kd.R_mono (Kd.R_far (p := ⟨al, 0, none⟩) (Kd.R_types aa.out af.out (by decide)) (fun _ hk => hk.2) (.slice aY ak.length aZ)) (fun _ h_ => h_.1))))) (g := ag) (o := .cells #[.string ai, .string aj] 34 (0, 0)) (by (with_reducible repeat (first | refine blk_drewN ?_ _ | refine blk_drew ?_ | refine blk_alloc ?_ _)); refine blk_far ?_ aD.out _; (with_reducible repeat (first | refine blk_drewN ?_ _ | refine blk_drew ?_ | refine blk_alloc ?_ _)); exact ab.out)) (below_size (by repeat (first | (with_reducible first | exact HB.out | apply below_alloc | apply pw_below_drewN | apply below_drew1 | refine below_set ?_ an.out | refine below_set ?_ ao.out | refine below_set ?_ au.out) | exact HB.out)))); have n4_ := Aside0.mk (blk_below (g := ah) (o := .cells #[.slice ap ae.length am] 24 (0, 0)) (by (with_reducible repeat (first | refine blk_drewN ?_ _ | refine blk_drew ?_ | refine blk_alloc ?_ _)); refine blk_far ?_ aK.out _; (with_reducible repeat (first | refine blk_drewN ?_ _ | refine blk_drew ?_ | refine blk_alloc ?_ _)); exact ac.out) hb); have n5_ := Aside0.mk (blk_below (g := ag) (o := .cells #[.string ai, .string aj] 34 (0, 0)) (by (with_reducible repeat (first | refine blk_drewN ?_ _ | refine blk_drew ?_ | refine blk_alloc ?_ _)); refine blk_far ?_ aD.out _; (with_reducible repeat (first | refine blk_drewN ?_ _ | refine blk_drew ?_ | refine blk_alloc ?_ _)); exact ab.out) hb); have n6_ := Aside0.mk (blk_below (g := al) (o := .cells #[.slice aY ak.length aZ] 24 (0, 0)) (by (with_reducible repeat (first | refine blk_drewN ?_ _ | refine blk_drew ?_ | refine blk_alloc ?_ _)); refine blk_put (cs := #[.slice none 0 0]) ?_ 0 _ rfl; (with_reducible repeat (first | refine blk_drewN ?_ _ | refine blk_drew ?_ | refine blk_alloc ?_ _)); exact af.out) hb); have n7_ := Aside0.mk (below_step (by repeat (first | (with_reducible first | exact HB.out | apply below_alloc | apply pw_below_drewN | apply below_drew1 | refine below_set ?_ an.out | refine below_set ?_ ao.out | refine below_set ?_ au.out) | exact HB.out)) hb); clear aw; clear aa; clear az; clear ac; clear ab; clear af; clear HB; have aw := n0_; have aa := n1_; have az := n2_; have aM := n3_; have ac := n4_; have ab := n5_; have af := n6_; have HB := n7_; clear n0_ n1_ n2_ n3_ n4_ n5_ n6_ n7_; (try clear hb); (try clear hb2); (try clear hk); (try clear hi); (try clear ho0)))
     have n0_ := Aside0.mk (Kd.V_drew aw.out)
     have n1_ := Aside0.mk (Kd.R_drew aa.out)
     have n2_ := Aside0.mk (Kd.V_drew az.out)
     have n3_ := Aside0.mk (Kd.R_drew aM.out)
     have n4_ := Aside0.mk (blk_drew ac.out)
     have n5_ := Aside0.mk (blk_drew ab.out)
     have n6_ := Aside0.mk (blk_drew af.out)
     have n7_ := Aside0.mk (below_drew1 HB.out)
     clear aw aa az aM ac ab af HB
     have aw := n0_
     have aa := n1_
     have az := n2_
     have aM := n3_
     have ac := n4_
     have ab := n5_
     have af := n6_
     have HB := n7_
     clear n0_ n1_ n2_ n3_ n4_ n5_ n6_ n7_
     refine start_ (n := 6) (S := fun w' => w'.cell? ⟨ah, 0, none⟩ = some (.slice ap ae.length am)) (ds := []) #[false, false, false, false, false, false] (by kernel_rfl) rfl rfl ((blk_cell ac.out 0).trans rfl) (fun hHeld => ?_)
     generalize w60.drew = w61 at aw aa az aM ac ab af HB hHeld ⊢
     refine take_ (i := 0) (N := some 47) (v := ?_) (a' := ?_) #[true, false, false, false, false, false] rfl rfl (by kernel_rfl) (fun _ _ _ h => h) (Or.inl ⟨by rfl, ?_⟩) hHeld ?_ ?_
     rotate_left
     ·intro w' s0
      go_simp
      with_reducible rfl
     rotate_left
     ·simp only [Act.put, List.setIfInBounds_toArray, List.set_cons_zero, List.set_cons_succ, i64_w, i32_w]
      rfl
     refine take_ (i := 3) (N := some 50) (v := ?_) (a' := ?_) #[true, false, false, true, false, false] rfl rfl (by kernel_rfl) (fun _ _ _ h => h) (Or.inl ⟨by rfl, ?_⟩) hHeld ?_ ?_
     rotate_left
     ·intro w' s0
      go_simp
      with_reducible rfl
     rotate_left
     ·simp only [Act.put, List.setIfInBounds_toArray, List.set_cons_zero, List.set_cons_succ, i64_w, i32_w]
      rfl
     refine one_ (i := 1) (N := some 48) #[true, true, false, true, false, false] rfl rfl (by kernel_rfl) (by decide) (fun K hK => ?_)
     refine goes_ Tryd.func17 (by kernel_rfl) rfl #[.agg #[.slice ap ae.length am]] (by rfl) rfl rfl (by (try simp only [List.map_toArray, List.map_cons, List.map_nil]); first | done | rfl | (simp only [List.length_drop, List.length_take]; rfl)) ?_
     with_reducible refine (intern_Check.calls kj5 _ _ ae bk _ ?side1 ?side2 A23.out).mono ?_
     (case side1 => repeat (first | exact (Kd.R_reads' aa.out).2.2 | (with_reducible refine Kd.C_alloc ?_ _) | (with_reducible refine Kd.C_drewN ?_ _) | (with_reducible refine Kd.C_drew ?_)))
     (case side2 => exact (Kd.R_reads' aa.out).2.1)
     rintro e w62 ⟨rfl, hb⟩
     refine ⟨_, rfl, ?_⟩
     have n0_ := Aside0.mk (Kd.V_below (by (with_reducible repeat (first | apply Kd.V_alloc | apply Kd.V_drewN | apply Kd.V_drew)); exact aw.out) hb)
     have n1_ := Aside0.mk (Kd.R_below (by (with_reducible repeat (first | apply Kd.R_alloc | apply Kd.R_drewN | apply Kd.R_drew)); exact aa.out) hb)
     have n2_ := Aside0.mk (Kd.V_below (by (with_reducible repeat (first | apply Kd.V_alloc | apply Kd.V_drewN | apply Kd.V_drew)); exact az.out) hb)
     have n3_ := Aside0.mk (Kd.R_below (by (with_reducible repeat (first | apply Kd.R_alloc | apply Kd.R_drewN | apply Kd.R_drew)); exact aM.out) hb)
     have n4_ := Aside0.mk (blk_below (g := ah) (o := .cells #[.slice ap ae.length am] 24 (0, 0)) (by (with_reducible repeat (first | refine blk_drewN ?_ _ | refine blk_drew ?_ | refine blk_alloc ?_ _)); exact ac.out) hb)
     have n5_ := Aside0.mk (blk_below (g := ag) (o := .cells #[.string ai, .string aj] 34 (0, 0)) (by (with_reducible repeat (first | refine blk_drewN ?_ _ | refine blk_drew ?_ | refine blk_alloc ?_ _)); exact ab.out) hb)
     have n6_ := Aside0.mk (blk_below (g := al) (o := .cells #[.slice aY ak.length aZ] 24 (0, 0)) (by (with_reducible repeat (first | refine blk_drewN ?_ _ | refine blk_drew ?_ | refine blk_alloc ?_ _)); exact af.out) hb)
     have n7_ := Aside0.mk (below_step (by repeat (first | (with_reducible first | exact HB.out | apply below_alloc | apply pw_below_drewN | apply below_drew1 | refine below_set ?_ an.out | refine below_set ?_ ao.out | refine below_set ?_ au.out) | exact HB.out)) hb)
     clear aw aa az aM ac ab af HB
     have aw := n0_
     have aa := n1_
     have az := n2_
     have aM := n3_
     have ac := n4_
     have ab := n5_
     have af := n6_
     have HB := n7_
     clear n0_ n1_ n2_ n3_ n4_ n5_ n6_ n7_
     (try clear hb)
     (try clear hb2)
     (try clear hk)
     (try clear hi)
     refine hK.out _ _ ((blk_cell ac.out 0).trans rfl) (fun hHeld => ?_)
     clear hK K
     refine norm_ (a' := ?_) ?_ ?_
     rotate_left
     ·show Act.put _ (some 48) _ = _
      simp only [Act.put, List.setIfInBounds_toArray, List.set_cons_zero, List.set_cons_succ, i64_w, i32_w]
      rfl
     refine pure_ (i := 2) (N := some 49) (v := ?_) (a' := ?_) #[true, true, true, true, false, false] rfl rfl (by kernel_rfl) (fun _ _ _ h => h) (Or.inl ⟨by rfl, ?_⟩) ?_ ?_
     rotate_left
     ·intro w'
      go_simp
      with_reducible rfl
     rotate_left
     ·simp only [Act.put, List.setIfInBounds_toArray, List.set_cons_zero, List.set_cons_succ, i64_w, i32_w]
      rfl
     refine one_ (i := 4) (N := some 51) #[true, true, true, true, true, false] rfl rfl (by kernel_rfl) (by decide) (fun K hK => ?_)
     refine goes_ Tryd.func11 (by kernel_rfl) rfl #[.agg #[.slice ap ae.length am]] (by rfl) rfl rfl (by (try simp only [List.map_toArray, List.map_cons, List.map_nil]); first | done | rfl | (simp only [List.length_drop, List.length_take]; rfl)) ?_
     with_reducible refine (graftwoodref10_May.calls kj5 _ _ ae bj _ ?side1 ?side2 A24.out).mono ?_
     (case side1 => repeat (first | exact (Kd.R_reads' aa.out).2.2 | (with_reducible refine Kd.C_alloc ?_ _) | (with_reducible refine Kd.C_drewN ?_ _) | (with_reducible refine Kd.C_drew ?_)))
     (case side2 => exact (Kd.R_reads' aa.out).2.1)
     rintro e w63 ⟨rfl, hb⟩
     refine ⟨_, rfl, ?_⟩
     have n0_ := Aside0.mk (Kd.V_below (by (with_reducible repeat (first | apply Kd.V_alloc | apply Kd.V_drewN | apply Kd.V_drew)); exact aw.out) hb)
     have n1_ := Aside0.mk (Kd.R_below (by (with_reducible repeat (first | apply Kd.R_alloc | apply Kd.R_drewN | apply Kd.R_drew)); exact aa.out) hb)
     have n2_ := Aside0.mk (Kd.V_below (by (with_reducible repeat (first | apply Kd.V_alloc | apply Kd.V_drewN | apply Kd.V_drew)); exact az.out) hb)
     have n3_ := Aside0.mk (Kd.R_below (by (with_reducible repeat (first | apply Kd.R_alloc | apply Kd.R_drewN | apply Kd.R_drew)); exact aM.out) hb)
     have n4_ := Aside0.mk (blk_below (g := ah) (o := .cells #[.slice ap ae.length am] 24 (0, 0)) (by (with_reducible repeat (first | refine blk_drewN ?_ _ | refine blk_drew ?_ | refine blk_alloc ?_ _)); exact ac.out) hb)
     have n5_ := Aside0.mk (blk_below (g := ag) (o := .cells #[.string ai, .string aj] 34 (0, 0)) (by (with_reducible repeat (first | refine blk_drewN ?_ _ | refine blk_drew ?_ | refine blk_alloc ?_ _)); exact ab.out) hb)
     have n6_ := Aside0.mk (blk_below (g := al) (o := .cells #[.slice aY ak.length aZ] 24 (0, 0)) (by (with_reducible repeat (first | refine blk_drewN ?_ _ | refine blk_drew ?_ | refine blk_alloc ?_ _)); exact af.out) hb)
     have n7_ := Aside0.mk (below_step (by repeat (first | (with_reducible first | exact HB.out | apply below_alloc | apply pw_below_drewN | apply below_drew1 | refine below_set ?_ an.out | refine below_set ?_ ao.out | refine below_set ?_ au.out) | exact HB.out)) hb)
     clear aw aa az aM ac ab af HB
     have aw := n0_
     have aa := n1_
     have az := n2_
     have aM := n3_
     have ac := n4_
     have ab := n5_
     have af := n6_
     have HB := n7_
     clear n0_ n1_ n2_ n3_ n4_ n5_ n6_ n7_
     (try clear hb)
     (try clear hb2)
     (try clear hk)
     (try clear hi)
     refine hK.out _ _ ((blk_cell ac.out 0).trans rfl) (fun hHeld => ?_)
     clear hK K
     refine norm_ (a' := ?_) ?_ ?_
     rotate_left
     ·show Act.put _ (some 51) _ = _
      simp only [Act.put, List.setIfInBounds_toArray, List.set_cons_zero, List.set_cons_succ, i64_w, i32_w]
      rfl
     refine pure_ (i := 5) (N := some 52) (v := ?_) (a' := ?_) #[true, true, true, true, true, true] rfl rfl (by kernel_rfl) (fun _ _ _ h => h) (Or.inl ⟨by rfl, ?_⟩) ?_ ?_
     rotate_left
     ·intro w'
      go_simp
      with_reducible rfl
     rotate_left
     ·simp only [Act.put, List.setIfInBounds_toArray, List.set_cons_zero, List.set_cons_succ, i64_w, i32_w]
      rfl
     refine done_ (by kernel_rfl) ?_
     have eq : w63.cell? ⟨ah, 0, none⟩ = some (.slice ap ae.length am) := (blk_cell ac.out 0).trans rfl
     have er := blk_frozen ac.out 0
     try go_wp2_with (first | ((with_reducible refine gate_callee (f := 11) rfl ?_); refine goesL_ (some 54) rfl rfl Tryd.func11 (by kernel_rfl) rfl #[.agg #[.slice ap ae.length am]] rfl (by (try simp only [List.map_toArray, List.map_cons, List.map_nil]); first | done | rfl | (simp only [List.length_drop, List.length_take]; rfl)) ?_; (with_reducible refine (graftwoodref10_May.calls kj5 _ _ ae true _ ?side1 ?side2 A44.out).mono ?_); (case side1 => repeat (first | exact (Kd.R_reads' aa.out).2.2 | (with_reducible refine Kd.C_alloc ?_ _) | (with_reducible refine Kd.C_drewN ?_ _) | (with_reducible refine Kd.C_drew ?_))); (case side2 => exact (Kd.R_reads' aa.out).2.1); rintro e w65 ⟨rfl, hb⟩; refine ⟨_, rfl, ?_⟩; have n0_ := Aside0.mk (Kd.V_below (by (with_reducible repeat (first | apply Kd.V_alloc | apply Kd.V_drewN | apply Kd.V_drew)); exact aw.out) hb); have n1_ := Aside0.mk (Kd.R_below (by (with_reducible repeat (first | apply Kd.R_alloc | apply Kd.R_drewN | apply Kd.R_drew)); exact aa.out) hb); have n2_ := Aside0.mk (Kd.V_below (by (with_reducible repeat (first | apply Kd.V_alloc | apply Kd.V_drewN | apply Kd.V_drew)); exact az.out) hb); have n3_ := Aside0.mk (Kd.R_below (by (with_reducible repeat (first | apply Kd.R_alloc | apply Kd.R_drewN | apply Kd.R_drew)); exact aM.out) hb); have n4_ := Aside0.mk (blk_below (g := ah) (o := .cells #[.slice ap ae.length am] 24 (0, 0)) (by (with_reducible repeat (first | refine blk_drewN ?_ _ | refine blk_drew ?_ | refine blk_alloc ?_ _)); exact ac.out) hb); have n5_ := Aside0.mk (blk_below (g := ag) (o := .cells #[.string ai, .string aj] 34 (0, 0)) (by (with_reducible repeat (first | refine blk_drewN ?_ _ | refine blk_drew ?_ | refine blk_alloc ?_ _)); exact ab.out) hb); have n6_ := Aside0.mk (blk_below (g := al) (o := .cells #[.slice aY ak.length aZ] 24 (0, 0)) (by (with_reducible repeat (first | refine blk_drewN ?_ _ | refine blk_drew ?_ | refine blk_alloc ?_ _)); exact af.out) hb); have n7_ := Aside0.mk (below_step (by repeat (first | (with_reducible first | exact HB.out | apply below_alloc | apply pw_below_drewN | apply below_drew1 | refine below_set ?_ an.out | refine below_set ?_ ao.out | refine below_set ?_ au.out) | exact HB.out)) hb); clear aw; clear aa; clear az; clear aM; clear ac; clear ab; clear af; clear HB; have aw := n0_; have aa := n1_; have az := n2_; have aM := n3_; have ac := n4_; have ab := n5_; have af := n6_; have HB := n7_; clear n0_ n1_ n2_ n3_ n4_ n5_ n6_ n7_; (try clear hb); (try clear hb2); (try clear hk); (try clear hi)))
     go_loopg [14, 15, 16] kj5 (fun kq v14 v15 v16 w' => ∃ (br : List (S34)) (bK : Bool) (aq : Int), v15 = .bool bK ∧ v16 = .int .i64 aq ∧ Aside0 (IIT.l0 kq aG aA aE ax ar bc be br bK aq ae ai aj ak = some r) ∧ Aside0 (kq ≤ kj5) ∧ Aside0 (Kd.V (Kd.int .i64) 3 w' w.heap.size (fun k_ => (P2_ k_ ∨ w.heap.size ≤ k_) ∧ some k_ ≠ (bJ : Value).ownBlock ∧ some k_ ≠ (v14 : Value).ownBlock ∧ some k_ ≠ ((.slice ap ae.length am) : Value).ownBlock ∧ k_ ≠ ah ∧ k_ ≠ ag ∧ k_ ≠ al) (.slice fB aG.length eS) aG) ∧ Aside0 (Kd.R k34 34 w' w.heap.size (fun k_ => (w.heap.size ≤ k_) ∧ some k_ ≠ (v14 : Value).ownBlock ∧ some k_ ≠ ((.slice ap ae.length am) : Value).ownBlock ∧ k_ ≠ ag) bJ bc) ∧ Aside0 (Kd.R k34 34 w' w.heap.size (fun k_ => (w.heap.size ≤ k_) ∧ some k_ ≠ (bJ : Value).ownBlock ∧ some k_ ≠ ((.slice ap ae.length am) : Value).ownBlock ∧ k_ ≠ ag) v14 br) ∧ Aside0 (Kd.R k34 34 w' w.heap.size (fun k_ => (w.heap.size ≤ k_) ∧ some k_ ≠ (bJ : Value).ownBlock ∧ some k_ ≠ (v14 : Value).ownBlock ∧ k_ ≠ ag) (.slice ap ae.length am) ae) ∧ Aside0 (Kd.V k34 34 w' w.heap.size (fun k_ => (P2_ k_ ∨ w.heap.size ≤ k_) ∧ some k_ ≠ (bJ : Value).ownBlock ∧ some k_ ≠ (v14 : Value).ownBlock ∧ k_ ≠ ah ∧ k_ ≠ ag ∧ k_ ≠ al) (.slice aY ak.length aZ) ak) ∧ Aside0 (w'.heap[ah]? = some (.cells #[(.slice ap ae.length am)] 24 (0, 0))) ∧ Aside0 (w'.heap[ag]? = some (.cells #[.string ai, .string aj] 34 (0, 0))) ∧ Aside0 (w'.heap[al]? = some (.cells #[(.slice aY ak.length aZ)] 24 (0, 0))) ∧ Aside0 (Below w.heap.size w w'))
     case atStart => exact ⟨(([] : List (S34))), (false), (0), (by first | rfl | (simp; done) | (simp [*]; done)), (by first | rfl | (simp; done) | (simp [*]; done)), H', ⟨Nat.le_refl _⟩, ⟨by (with_reducible repeat (first | apply Kd.V_alloc | apply Kd.V_drewN | apply Kd.V_drew)); exact Kd.V_mono aw.out (fun _ hk => ⟨hk.1.1.1, ⟨hk.2, ⟨(by simp [Value.ownBlock]), ⟨hk.1.1.2.1, ⟨hk.1.1.2.2.1, ⟨hk.1.1.2.2.2, hk.1.2⟩⟩⟩⟩⟩⟩)⟩, ⟨by (with_reducible repeat (first | apply Kd.R_alloc | apply Kd.R_drewN | apply Kd.R_drew)); exact Kd.R_mono aM.out (fun _ hk => ⟨hk.1.1.1, ⟨(by simp [Value.ownBlock]), ⟨hk.1.2, hk.2⟩⟩⟩)⟩, ⟨by first | exact Kd.R_nil _ _ _ _ _ | exact Kd.N_nil _ _ _ _ _ | exact Kd.V_nil _ _ _ _ _ | exact Kd.Q_nil _ _ _ _ _ | exact Kd.S_nil _ _ _ _ _⟩, ⟨by (with_reducible repeat (first | apply Kd.R_alloc | apply Kd.R_drewN | apply Kd.R_drew)); exact Kd.R_mono aa.out (fun _ hk => ⟨hk.1.1, ⟨hk.2, ⟨(by simp [Value.ownBlock]), hk.1.2⟩⟩⟩)⟩, ⟨by (with_reducible repeat (first | apply Kd.V_alloc | apply Kd.V_drewN | apply Kd.V_drew)); exact Kd.V_mono az.out (fun _ hk => ⟨hk.1.1.1, ⟨hk.2, ⟨(by simp [Value.ownBlock]), ⟨hk.1.1.2.1, ⟨hk.1.1.2.2, hk.1.2⟩⟩⟩⟩⟩)⟩, ⟨by (with_reducible repeat (first | refine blk_drewN ?_ _ | refine blk_drew ?_ | refine blk_alloc ?_ _)); exact ac.out⟩, ⟨by (with_reducible repeat (first | refine blk_drewN ?_ _ | refine blk_drew ?_ | refine blk_alloc ?_ _)); exact ab.out⟩, ⟨by (with_reducible repeat (first | refine blk_drewN ?_ _ | refine blk_drew ?_ | refine blk_alloc ?_ _)); exact af.out⟩, ⟨by repeat (first | (with_reducible first | exact HB.out | apply below_alloc | apply pw_below_drewN | apply below_drew1 | refine below_set ?_ an.out | refine below_set ?_ ao.out | refine below_set ?_ au.out) | exact HB.out)⟩⟩
     case round =>
      as_aux_lemma =>
      clear H'
      try clear c1
      try clear q1
      try clear c2
      try clear p2
      try clear c3
      try clear c4
      try clear c5
      try clear c6
      try clear c8
      try clear c11
      try clear c17
      try clear bF
      try clear cd
      try clear c18
      try clear eA
      try clear eB
      try clear q19
      try clear c20
      try clear c21
      try clear c22
      try clear c25
      try clear eC
      try clear eD
      try clear eE
      try clear c26
      try clear c35
      try clear c36
      try clear c45
      try clear c46
      try clear c55
      try clear c56
      try clear gy
      try clear gz
      try clear gA
      try clear gB
      try clear gC
      try clear gD
      try clear gE
      try clear gF
      try clear ea
      try clear ec
      try clear ed
      try clear eg
      try clear ei
      try clear ej
      try clear em
      try clear eo
      try clear eq
      try clear gG
      try clear gH
      try clear gI
      try clear gJ
      try clear gK
      try clear gL
      try clear gM
      try clear gN
      try clear eb
      try clear ee
      try clear ef
      try clear eh
      try clear ek
      try clear el
      try clear en
      try clear ep
      try clear er
      try clear p2
      try clear q1
      try clear q19
      obtain ⟨br, bK, aq, rfl, rfl, HA, HK2, aw, aV, a5, aa, ad, ac, ab, af, HB⟩ := hrel
      cases gk with
      | zero => exact absurd HA.out (by simp [IIT.l0])
      | succ k2 =>
       have H := HA.out
       clear HA
       simp only [IIT.l0] at H
       by_cases c66 : aq < (aG.length : Int)
       ·as_aux_lemma =>
        rw [if_pos c66] at H
        have ce : decide (aq < (aG.length : Int)) = true := decide_eq_true c66
        clear c66
        by_cases c67 : 0 ≤ aq
        ·as_aux_lemma =>
         rw [if_pos c67] at H
         have jo : decide (0 ≤ aq) = true := decide_eq_true c67
         clear c67
         by_cases c68 : (rd aG aq) < 0
         ·as_aux_lemma =>
          rw [if_pos c68] at H
          have fC : decide ((rd aG aq) < 0) = true := decide_eq_true c68
          clear c68
          have H' := Aside0.mk H
          clear H
          try go_wp2
          have n0_ := Aside0.mk (Kd.V_drew aw.out)
          have n1_ := Aside0.mk (Kd.R_drew aV.out)
          have n2_ := Aside0.mk (Kd.R_drew a5.out)
          have n3_ := Aside0.mk (Kd.R_drew aa.out)
          have n4_ := Aside0.mk (Kd.V_drew ad.out)
          have n5_ := Aside0.mk (blk_drew ac.out)
          have n6_ := Aside0.mk (blk_drew ab.out)
          have n7_ := Aside0.mk (blk_drew af.out)
          have n8_ := Aside0.mk (below_drew1 HB.out)
          clear aw aV a5 aa ad ac ab af HB
          have aw := n0_
          have aV := n1_
          have a5 := n2_
          have aa := n3_
          have ad := n4_
          have ac := n5_
          have ab := n6_
          have af := n7_
          have HB := n8_
          clear n0_ n1_ n2_ n3_ n4_ n5_ n6_ n7_ n8_
          have p434 : 0 ≤ (aq : Int) := of_decide_eq_true (by first | (with_reducible assumption) | assumption)
          have q434 : aq < (aG.length : Int) := of_decide_eq_true (by first | (with_reducible assumption) | assumption)
          obtain ⟨ad434, e434, bg⟩ := Kd.at_int (Kd.V_reads' aw.out).2.2 aq p434 q434
          cases e434
          replace p434 := eq_true p434
          replace q434 := eq_true q434
          refine start_ (n := 15) (S := fun w' => w'.cell? (ad434.add (aq).toNat) = some (.int .i64 (rd aG aq))) (ds := []) #[false, false, false, false, false, false, false, false, false, false, false, false, false, false, false] (by kernel_rfl) rfl rfl (bg) (fun hHeld => ?_); refine with_tabW IIT.tab16 IIT.bits16 (fun HT_ HW_ => ?_)
          generalize wr.drew = w69 at aw aV a5 aa ad ac ab af HB bg hHeld ⊢
          refine pure_ (i := 0) (N := some 93) (v := ?_) (a' := ?_) #[true, false, false, false, false, false, false, false, false, false, false, false, false, false, false] rfl rfl (any_of HT_.out (by kernel_rfl)) (fun _ _ _ h => h) (Or.inl ⟨by rfl, ?_⟩) ?_ ?_
          rotate_left
          ·intro w'
           go_simp
           with_reducible rfl
          rotate_left
          ·simp only [Act.put, List.setIfInBounds_toArray, List.set_cons_zero, List.set_cons_succ, i64_w, i32_w]
           rfl
          refine pure_ (i := 1) (N := some 94) (v := ?_) (a' := ?_) #[true, true, false, false, false, false, false, false, false, false, false, false, false, false, false] rfl rfl (any_of HT_.out (by kernel_rfl)) (fun _ _ _ h => h) (Or.inl ⟨by rfl, ?_⟩) ?_ ?_
          rotate_left
          ·intro w'
           go_simp
           with_reducible rfl
          rotate_left
          ·simp only [Act.put, List.setIfInBounds_toArray, List.set_cons_zero, List.set_cons_succ, i64_w, i32_w]
           rfl
          refine pure_ (i := 2) (N := some 95) (v := ?_) (a' := ?_) #[true, true, true, false, false, false, false, false, false, false, false, false, false, false, false] rfl rfl (any_of HT_.out (by kernel_rfl)) (fun _ _ _ h => h) (Or.inl ⟨by rfl, ?_⟩) ?_ ?_
          rotate_left
          ·intro w'
           go_simp
           with_reducible rfl
          rotate_left
          ·simp only [Act.put, List.setIfInBounds_toArray, List.set_cons_zero, List.set_cons_succ, i64_w, i32_w]
           rfl
          refine take_ (i := 3) (N := some 96) (v := ?_) (a' := ?_) #[true, true, true, true, false, false, false, false, false, false, false, false, false, false, false] rfl rfl (take_ofW HT_.out HW_.out (by kernel_rfl)) (fun _ _ _ h => h) (Or.inl ⟨by rfl, ?_⟩) hHeld ?_ ?_
          rotate_left
          ·intro w' s0
           go_simp
           with_reducible rfl
          rotate_left
          ·simp only [Act.put, List.setIfInBounds_toArray, List.set_cons_zero, List.set_cons_succ, i64_w, i32_w]
           rfl
          refine pure_ (i := 4) (N := some 97) (v := ?_) (a' := ?_) #[true, true, true, true, true, false, false, false, false, false, false, false, false, false, false] rfl rfl (any_of HT_.out (by kernel_rfl)) (fun _ _ _ h => h) (Or.inl ⟨by rfl, ?_⟩) ?_ ?_
          rotate_left
          ·intro w'
           go_simp
           with_reducible rfl
          rotate_left
          ·simp only [Act.put, List.setIfInBounds_toArray, List.set_cons_zero, List.set_cons_succ, i64_w, i32_w]
           rfl
          refine pure_ (i := 5) (N := some 98) (v := ?_) (a' := ?_) #[true, true, true, true, true, true, false, false, false, false, false, false, false, false, false] rfl rfl (any_of HT_.out (by kernel_rfl)) (fun _ _ _ h => h) (Or.inl ⟨by rfl, ?_⟩) ?_ ?_
          rotate_left
          ·intro w'
           go_simp
           with_reducible rfl
          rotate_left
          ·simp only [Act.put, List.setIfInBounds_toArray, List.set_cons_zero, List.set_cons_succ, i64_w, i32_w]
           rfl
          refine pure_ (i := 6) (N := some 99) (v := undef) (a' := ?_) #[true, true, true, true, true, true, true, false, false, false, false, false, false, false, false] rfl rfl (any_of HT_.out (by kernel_rfl)) (fun _ _ _ h => h) (Or.inr ⟨by rfl, rfl⟩) ?_ ?_
          rotate_left
          ·simp only [Act.put, List.setIfInBounds_toArray, List.set_cons_zero, List.set_cons_succ, i64_w, i32_w]
           rfl
          refine pure_ (i := 7) (N := some 100) (v := undef) (a' := ?_) #[true, true, true, true, true, true, true, true, false, false, false, false, false, false, false] rfl rfl (any_of HT_.out (by kernel_rfl)) (fun _ _ _ h => h) (Or.inr ⟨by rfl, rfl⟩) ?_ ?_
          rotate_left
          ·simp only [Act.put, List.setIfInBounds_toArray, List.set_cons_zero, List.set_cons_succ, i64_w, i32_w]
           rfl
          refine pure_ (i := 8) (N := some 101) (v := undef) (a' := ?_) #[true, true, true, true, true, true, true, true, true, false, false, false, false, false, false] rfl rfl (any_of HT_.out (by kernel_rfl)) (fun _ _ _ h => h) (Or.inr ⟨by rfl, rfl⟩) ?_ ?_
          rotate_left
          ·simp only [Act.put, List.setIfInBounds_toArray, List.set_cons_zero, List.set_cons_succ, i64_w, i32_w]
           rfl
          refine pure_ (i := 9) (N := some 102) (v := undef) (a' := ?_) #[true, true, true, true, true, true, true, true, true, true, false, false, false, false, false] rfl rfl (any_of HT_.out (by kernel_rfl)) (fun _ _ _ h => h) (Or.inr ⟨by rfl, rfl⟩) ?_ ?_
          rotate_left
          ·simp only [Act.put, List.setIfInBounds_toArray, List.set_cons_zero, List.set_cons_succ, i64_w, i32_w]
           rfl
          refine pure_ (i := 10) (N := some 103) (v := undef) (a' := ?_) #[true, true, true, true, true, true, true, true, true, true, true, false, false, false, false] rfl rfl (any_of HT_.out (by kernel_rfl)) (fun _ _ _ h => h) (Or.inr ⟨by rfl, rfl⟩) ?_ ?_
          rotate_left
          ·simp only [Act.put, List.setIfInBounds_toArray, List.set_cons_zero, List.set_cons_succ, i64_w, i32_w]
           rfl
          refine pure_ (i := 11) (N := some 104) (v := undef) (a' := ?_) #[true, true, true, true, true, true, true, true, true, true, true, true, false, false, false] rfl rfl (any_of HT_.out (by kernel_rfl)) (fun _ _ _ h => h) (Or.inr ⟨by rfl, rfl⟩) ?_ ?_
          rotate_left
          ·simp only [Act.put, List.setIfInBounds_toArray, List.set_cons_zero, List.set_cons_succ, i64_w, i32_w]
           rfl
          refine pure_ (i := 12) (N := some 105) (v := undef) (a' := ?_) #[true, true, true, true, true, true, true, true, true, true, true, true, true, false, false] rfl rfl (any_of HT_.out (by kernel_rfl)) (fun _ _ _ h => h) (Or.inr ⟨by rfl, rfl⟩) ?_ ?_
          rotate_left
          ·simp only [Act.put, List.setIfInBounds_toArray, List.set_cons_zero, List.set_cons_succ, i64_w, i32_w]
           rfl
          refine pure_ (i := 13) (N := some 106) (v := undef) (a' := ?_) #[true, true, true, true, true, true, true, true, true, true, true, true, true, true, false] rfl rfl (any_of HT_.out (by kernel_rfl)) (fun _ _ _ h => h) (Or.inr ⟨by rfl, rfl⟩) ?_ ?_
          rotate_left
          ·simp only [Act.put, List.setIfInBounds_toArray, List.set_cons_zero, List.set_cons_succ, i64_w, i32_w]
           rfl
          refine pure_ (i := 14) (N := some 107) (v := ?_) (a' := ?_) #[true, true, true, true, true, true, true, true, true, true, true, true, true, true, true] rfl rfl (any_of HT_.out (by kernel_rfl)) (fun _ _ _ h => h) (Or.inl ⟨by rfl, ?_⟩) ?_ ?_
          rotate_left
          ·intro w'
           go_simp
           with_reducible rfl
          rotate_left
          ·simp only [Act.put, List.setIfInBounds_toArray, List.set_cons_zero, List.set_cons_succ, i64_w, i32_w]
           rfl
          refine done_ (done_of HT_.out (by kernel_rfl)) ?_
          try go_wp2
          go_roundg k2
          case measure => have := HJ5.out; have := HK2.out; omega
          case rel => exact ⟨(br), (true), (wrap64 (aq + 1)), (by first | rfl | (simp; done) | (simp [*]; done)), (by first | rfl | (simp; done) | (simp [*]; done)), H', ⟨by have := HJ5.out; have := HK2.out; omega⟩, ⟨by (with_reducible repeat (first | apply Kd.V_alloc | apply Kd.V_drewN | apply Kd.V_drew)); exact aw.out⟩, ⟨by (with_reducible repeat (first | apply Kd.R_alloc | apply Kd.R_drewN | apply Kd.R_drew)); exact aV.out⟩, ⟨by (with_reducible repeat (first | apply Kd.R_alloc | apply Kd.R_drewN | apply Kd.R_drew)); exact a5.out⟩, ⟨by (with_reducible repeat (first | apply Kd.R_alloc | apply Kd.R_drewN | apply Kd.R_drew)); exact aa.out⟩, ⟨by (with_reducible repeat (first | apply Kd.V_alloc | apply Kd.V_drewN | apply Kd.V_drew)); exact ad.out⟩, ⟨by (with_reducible repeat (first | refine blk_drewN ?_ _ | refine blk_drew ?_ | refine blk_alloc ?_ _)); exact ac.out⟩, ⟨by (with_reducible repeat (first | refine blk_drewN ?_ _ | refine blk_drew ?_ | refine blk_alloc ?_ _)); exact ab.out⟩, ⟨by (with_reducible repeat (first | refine blk_drewN ?_ _ | refine blk_drew ?_ | refine blk_alloc ?_ _)); exact af.out⟩, ⟨by repeat (first | (with_reducible first | exact HB.out | apply below_alloc | apply pw_below_drewN | apply below_drew1 | refine below_set ?_ an.out | refine below_set ?_ ao.out | refine below_set ?_ au.out) | exact HB.out)⟩⟩
         ·as_aux_lemma =>
          rw [if_neg c68] at H
          have fC : decide ((rd aG aq) < 0) = false := decide_eq_false c68
          clear c68
          by_cases c70 : (rd aG aq) ≥ (ae.length : Int)
          ·as_aux_lemma =>
           rw [if_pos c70] at H
           have cf : decide ((ae.length : Int) ≤ (rd aG aq)) = true := decide_eq_true c70
           clear c70
           have H' := Aside0.mk H
           clear H
           try go_wp2
           have n0_ := Aside0.mk (Kd.V_drew aw.out)
           have n1_ := Aside0.mk (Kd.R_drew aV.out)
           have n2_ := Aside0.mk (Kd.R_drew a5.out)
           have n3_ := Aside0.mk (Kd.R_drew aa.out)
           have n4_ := Aside0.mk (Kd.V_drew ad.out)
           have n5_ := Aside0.mk (blk_drew ac.out)
           have n6_ := Aside0.mk (blk_drew ab.out)
           have n7_ := Aside0.mk (blk_drew af.out)
           have n8_ := Aside0.mk (below_drew1 HB.out)
           clear aw aV a5 aa ad ac ab af HB
           have aw := n0_
           have aV := n1_
           have a5 := n2_
           have aa := n3_
           have ad := n4_
           have ac := n5_
           have ab := n6_
           have af := n7_
           have HB := n8_
           clear n0_ n1_ n2_ n3_ n4_ n5_ n6_ n7_ n8_
           have p434 : 0 ≤ (aq : Int) := of_decide_eq_true (by first | (with_reducible assumption) | assumption)
           have q434 : aq < (aG.length : Int) := of_decide_eq_true (by first | (with_reducible assumption) | assumption)
           obtain ⟨ad434, e434, bg⟩ := Kd.at_int (Kd.V_reads' aw.out).2.2 aq p434 q434
           cases e434
           replace p434 := eq_true p434
           replace q434 := eq_true q434
           have p435 : 0 ≤ (aq : Int) := of_decide_eq_true (by first | (with_reducible assumption) | assumption)
           have q435 : aq < (aG.length : Int) := of_decide_eq_true (by first | (with_reducible assumption) | assumption)
           obtain ⟨ad435, e435, bp⟩ := Kd.at_int (Kd.V_reads' aw.out).2.2 aq p435 q435
           obtain rfl : ad434 = ad435 := (by injection e435)
           replace p435 := eq_true p435
           replace q435 := eq_true q435
           refine start_ (n := 15) (S := fun w' => w'.cell? ⟨ah, 0, none⟩ = some (.slice ap ae.length am) ∧ w'.cell? (ad434.add (aq).toNat) = some (.int .i64 (rd aG aq)) ∧ w'.cell? (ad434.add (aq).toNat) = some (.int .i64 (rd aG aq))) (ds := []) #[false, false, false, false, false, false, false, false, false, false, false, false, false, false, false] (by kernel_rfl) rfl rfl ⟨(blk_cell ac.out 0).trans rfl, bg, bp⟩ (fun hHeld => ?_); refine with_tabW IIT.tab16 IIT.bits16 (fun HT_ HW_ => ?_)
           generalize wr.drew = w71 at aw aV a5 aa ad ac ab af HB bg bp hHeld ⊢
           refine pure_ (i := 0) (N := some 93) (v := ?_) (a' := ?_) #[true, false, false, false, false, false, false, false, false, false, false, false, false, false, false] rfl rfl (any_of HT_.out (by kernel_rfl)) (fun _ _ _ h => h) (Or.inl ⟨by rfl, ?_⟩) ?_ ?_
           rotate_left
           ·intro w'
            go_simp
            with_reducible rfl
           rotate_left
           ·simp only [Act.put, List.setIfInBounds_toArray, List.set_cons_zero, List.set_cons_succ, i64_w, i32_w]
            rfl
           refine pure_ (i := 1) (N := some 94) (v := ?_) (a' := ?_) #[true, true, false, false, false, false, false, false, false, false, false, false, false, false, false] rfl rfl (any_of HT_.out (by kernel_rfl)) (fun _ _ _ h => h) (Or.inl ⟨by rfl, ?_⟩) ?_ ?_
           rotate_left
           ·intro w'
            go_simp
            with_reducible rfl
           rotate_left
           ·simp only [Act.put, List.setIfInBounds_toArray, List.set_cons_zero, List.set_cons_succ, i64_w, i32_w]
            rfl
           refine pure_ (i := 2) (N := some 95) (v := ?_) (a' := ?_) #[true, true, true, false, false, false, false, false, false, false, false, false, false, false, false] rfl rfl (any_of HT_.out (by kernel_rfl)) (fun _ _ _ h => h) (Or.inl ⟨by rfl, ?_⟩) ?_ ?_
           rotate_left
           ·intro w'
            go_simp
            with_reducible rfl
           rotate_left
           ·simp only [Act.put, List.setIfInBounds_toArray, List.set_cons_zero, List.set_cons_succ, i64_w, i32_w]
            rfl
           refine take_ (i := 3) (N := some 96) (v := ?_) (a' := ?_) #[true, true, true, true, false, false, false, false, false, false, false, false, false, false, false] rfl rfl (take_ofW HT_.out HW_.out (by kernel_rfl)) (fun _ _ _ h => h) (Or.inl ⟨by rfl, ?_⟩) hHeld ?_ ?_
           rotate_left
           ·rintro w' ⟨s0, s1, s2⟩
            go_simp
            with_reducible rfl
           rotate_left
           ·simp only [Act.put, List.setIfInBounds_toArray, List.set_cons_zero, List.set_cons_succ, i64_w, i32_w]
            rfl
           refine pure_ (i := 4) (N := some 97) (v := ?_) (a' := ?_) #[true, true, true, true, true, false, false, false, false, false, false, false, false, false, false] rfl rfl (any_of HT_.out (by kernel_rfl)) (fun _ _ _ h => h) (Or.inl ⟨by rfl, ?_⟩) ?_ ?_
           rotate_left
           ·intro w'
            go_simp
            with_reducible rfl
           rotate_left
           ·simp only [Act.put, List.setIfInBounds_toArray, List.set_cons_zero, List.set_cons_succ, i64_w, i32_w]
            rfl
           refine pure_ (i := 5) (N := some 98) (v := ?_) (a' := ?_) #[true, true, true, true, true, true, false, false, false, false, false, false, false, false, false] rfl rfl (any_of HT_.out (by kernel_rfl)) (fun _ _ _ h => h) (Or.inl ⟨by rfl, ?_⟩) ?_ ?_
           rotate_left
           ·intro w'
            go_simp
            with_reducible rfl
           rotate_left
           ·simp only [Act.put, List.setIfInBounds_toArray, List.set_cons_zero, List.set_cons_succ, i64_w, i32_w]
            rfl
           refine pure_ (i := 6) (N := some 99) (v := ?_) (a' := ?_) #[true, true, true, true, true, true, true, false, false, false, false, false, false, false, false] rfl rfl (any_of HT_.out (by kernel_rfl)) (fun _ _ _ h => h) (Or.inl ⟨by rfl, ?_⟩) ?_ ?_
           rotate_left
           ·intro w'
            go_simp
            with_reducible rfl
           rotate_left
           ·simp only [Act.put, List.setIfInBounds_toArray, List.set_cons_zero, List.set_cons_succ, i64_w, i32_w]
            rfl
           refine pure_ (i := 7) (N := some 100) (v := ?_) (a' := ?_) #[true, true, true, true, true, true, true, true, false, false, false, false, false, false, false] rfl rfl (any_of HT_.out (by kernel_rfl)) (fun _ _ _ h => h) (Or.inl ⟨by rfl, ?_⟩) ?_ ?_
           rotate_left
           ·intro w'
            go_simp
            with_reducible rfl
           rotate_left
           ·simp only [Act.put, List.setIfInBounds_toArray, List.set_cons_zero, List.set_cons_succ, i64_w, i32_w]
            rfl
           refine pure_ (i := 8) (N := some 101) (v := ?_) (a' := ?_) #[true, true, true, true, true, true, true, true, true, false, false, false, false, false, false] rfl rfl (any_of HT_.out (by kernel_rfl)) (fun _ _ _ h => h) (Or.inl ⟨by rfl, ?_⟩) ?_ ?_
           rotate_left
           ·intro w'
            go_simp
            with_reducible rfl
           rotate_left
           ·simp only [Act.put, List.setIfInBounds_toArray, List.set_cons_zero, List.set_cons_succ, i64_w, i32_w]
            rfl
           refine pure_ (i := 10) (N := some 103) (v := ?_) (a' := ?_) #[true, true, true, true, true, true, true, true, true, false, true, false, false, false, false] rfl rfl (any_of HT_.out (by kernel_rfl)) (fun _ _ _ h => h) (Or.inl ⟨by rfl, ?_⟩) ?_ ?_
           rotate_left
           ·intro w'
            go_simp
            with_reducible rfl
           rotate_left
           ·simp only [Act.put, List.setIfInBounds_toArray, List.set_cons_zero, List.set_cons_succ, i64_w, i32_w]
            rfl
           refine take_ (i := 9) (N := some 102) (v := ?_) (a' := ?_) #[true, true, true, true, true, true, true, true, true, true, true, false, false, false, false] rfl rfl (take_ofW HT_.out HW_.out (by kernel_rfl)) (fun _ _ _ h => h) (Or.inl ⟨by rfl, ?_⟩) hHeld ?_ ?_
           rotate_left
           ·rintro w' ⟨s0, s1, s2⟩
            go_simp
            with_reducible rfl
           rotate_left
           ·simp only [Act.put, List.setIfInBounds_toArray, List.set_cons_zero, List.set_cons_succ, i64_w, i32_w]
            rfl
           refine take_ (i := 11) (N := some 104) (v := ?_) (a' := ?_) #[true, true, true, true, true, true, true, true, true, true, true, true, false, false, false] rfl rfl (take_ofW HT_.out HW_.out (by kernel_rfl)) (fun _ _ _ h => h) (Or.inl ⟨by rfl, ?_⟩) hHeld ?_ ?_
           rotate_left
           ·rintro w' ⟨s0, s1, s2⟩
            go_simp
            with_reducible rfl
           rotate_left
           ·simp only [Act.put, List.setIfInBounds_toArray, List.set_cons_zero, List.set_cons_succ, i64_w, i32_w]
            rfl
           refine pure_ (i := 12) (N := some 105) (v := ?_) (a' := ?_) #[true, true, true, true, true, true, true, true, true, true, true, true, true, false, false] rfl rfl (any_of HT_.out (by kernel_rfl)) (fun _ _ _ h => h) (Or.inl ⟨by rfl, ?_⟩) ?_ ?_
           rotate_left
           ·intro w'
            go_simp
            with_reducible rfl
           rotate_left
           ·simp only [Act.put, List.setIfInBounds_toArray, List.set_cons_zero, List.set_cons_succ, i64_w, i32_w]
            rfl
           refine pure_ (i := 13) (N := some 106) (v := ?_) (a' := ?_) #[true, true, true, true, true, true, true, true, true, true, true, true, true, true, false] rfl rfl (any_of HT_.out (by kernel_rfl)) (fun _ _ _ h => h) (Or.inl ⟨by rfl, ?_⟩) ?_ ?_
           rotate_left
           ·intro w'
            go_simp
            with_reducible rfl
           rotate_left
           ·simp only [Act.put, List.setIfInBounds_toArray, List.set_cons_zero, List.set_cons_succ, i64_w, i32_w]
            rfl
           refine pure_ (i := 14) (N := some 107) (v := ?_) (a' := ?_) #[true, true, true, true, true, true, true, true, true, true, true, true, true, true, true] rfl rfl (any_of HT_.out (by kernel_rfl)) (fun _ _ _ h => h) (Or.inl ⟨by rfl, ?_⟩) ?_ ?_
           rotate_left
           ·intro w'
            go_simp
            with_reducible rfl
           rotate_left
           ·simp only [Act.put, List.setIfInBounds_toArray, List.set_cons_zero, List.set_cons_succ, i64_w, i32_w]
            rfl
           refine done_ (done_of HT_.out (by kernel_rfl)) ?_
           try go_wp2
           go_roundg k2
           case measure => have := HJ5.out; have := HK2.out; omega
           case rel => exact ⟨(br), (true), (wrap64 (aq + 1)), (by first | rfl | (simp; done) | (simp [*]; done)), (by first | rfl | (simp; done) | (simp [*]; done)), H', ⟨by have := HJ5.out; have := HK2.out; omega⟩, ⟨by (with_reducible repeat (first | apply Kd.V_alloc | apply Kd.V_drewN | apply Kd.V_drew)); exact aw.out⟩, ⟨by (with_reducible repeat (first | apply Kd.R_alloc | apply Kd.R_drewN | apply Kd.R_drew)); exact aV.out⟩, ⟨by (with_reducible repeat (first | apply Kd.R_alloc | apply Kd.R_drewN | apply Kd.R_drew)); exact a5.out⟩, ⟨by (with_reducible repeat (first | apply Kd.R_alloc | apply Kd.R_drewN | apply Kd.R_drew)); exact aa.out⟩, ⟨by (with_reducible repeat (first | apply Kd.V_alloc | apply Kd.V_drewN | apply Kd.V_drew)); exact ad.out⟩, ⟨by (with_reducible repeat (first | refine blk_drewN ?_ _ | refine blk_drew ?_ | refine blk_alloc ?_ _)); exact ac.out⟩, ⟨by (with_reducible repeat (first | refine blk_drewN ?_ _ | refine blk_drew ?_ | refine blk_alloc ?_ _)); exact ab.out⟩, ⟨by (with_reducible repeat (first | refine blk_drewN ?_ _ | refine blk_drew ?_ | refine blk_alloc ?_ _)); exact af.out⟩, ⟨by repeat (first | (with_reducible first | exact HB.out | apply below_alloc | apply pw_below_drewN | apply below_drew1 | refine below_set ?_ an.out | refine below_set ?_ ao.out | refine below_set ?_ au.out) | exact HB.out)⟩⟩
          ·as_aux_lemma =>
           rw [if_neg c70] at H
           have cf : decide ((ae.length : Int) ≤ (rd aG aq)) = false := decide_eq_false c70
           clear c70
           by_cases c72 : 0 ≤ (rd aG aq)
           ·as_aux_lemma =>
            rw [if_pos c72] at H
            have eF : decide (0 ≤ (rd aG aq)) = true := decide_eq_true c72
            clear c72
            by_cases c73 : (rd aG aq) < (ae.length : Int)
            ·as_aux_lemma =>
             rw [if_pos c73] at H
             have eG : decide ((rd aG aq) < (ae.length : Int)) = true := decide_eq_true c73
             clear c73
             by_cases c74 : br.length < 4398046511104
             ·as_aux_lemma =>
              rw [if_pos c74] at H
              have LMc74 := Aside0.mk c74
              clear c74
              obtain ⟨fD, bN⟩ : ∃ y_ : List (S34), y_ = (br ++ [(⟨(rd_T34 ae (rd aG aq)).f0, (rd_T34 ae (rd aG aq)).f1⟩ : S34)]) := ⟨_, rfl⟩
              replace H : (IIT.l0 k2 aG aA aE ax ar bc be fD bK (wrap64 (aq + 1)) ae ai aj ak) = some r := by first | (rw [bN]; with_reducible exact H) | (have H2_ := (Option.bind_some _ _).symm.trans H; rw [bN]; with_reducible exact H2_) | (have H2_ := (Option.bind_some _ _).symm.trans H; with_reducible exact H2_) | with_reducible exact H | (rw [bN]; exact H) | exact H
              have Ny438 := Aside0.mk bN
              clear bN
              have H' := Aside0.mk H
              clear H
              try go_wp2
              have n0_ := Aside0.mk (Kd.V_drew aw.out)
              have n1_ := Aside0.mk (Kd.R_drew aV.out)
              have n2_ := Aside0.mk (Kd.R_drew a5.out)
              have n3_ := Aside0.mk (Kd.R_drew aa.out)
              have n4_ := Aside0.mk (Kd.V_drew ad.out)
              have n5_ := Aside0.mk (blk_drew ac.out)
              have n6_ := Aside0.mk (blk_drew ab.out)
              have n7_ := Aside0.mk (blk_drew af.out)
              have n8_ := Aside0.mk (below_drew1 HB.out)
              clear aw aV a5 aa ad ac ab af HB
              have aw := n0_
              have aV := n1_
              have a5 := n2_
              have aa := n3_
              have ad := n4_
              have ac := n5_
              have ab := n6_
              have af := n7_
              have HB := n8_
              clear n0_ n1_ n2_ n3_ n4_ n5_ n6_ n7_ n8_
              have p434 : 0 ≤ (aq : Int) := of_decide_eq_true (by first | (with_reducible assumption) | assumption)
              have q434 : aq < (aG.length : Int) := of_decide_eq_true (by first | (with_reducible assumption) | assumption)
              obtain ⟨ad434, e434, bg⟩ := Kd.at_int (Kd.V_reads' aw.out).2.2 aq p434 q434
              cases e434
              replace p434 := eq_true p434
              replace q434 := eq_true q434
              have p435 : 0 ≤ (aq : Int) := of_decide_eq_true (by first | (with_reducible assumption) | assumption)
              have q435 : aq < (aG.length : Int) := of_decide_eq_true (by first | (with_reducible assumption) | assumption)
              obtain ⟨ad435, e435, bp⟩ := Kd.at_int (Kd.V_reads' aw.out).2.2 aq p435 q435
              obtain rfl : ad434 = ad435 := (by injection e435)
              replace p435 := eq_true p435
              replace q435 := eq_true q435
              refine start_ (n := 15) (S := fun w' => w'.cell? ⟨ah, 0, none⟩ = some (.slice ap ae.length am) ∧ w'.cell? (ad434.add (aq).toNat) = some (.int .i64 (rd aG aq)) ∧ w'.cell? (ad434.add (aq).toNat) = some (.int .i64 (rd aG aq))) (ds := []) #[false, false, false, false, false, false, false, false, false, false, false, false, false, false, false] (by kernel_rfl) rfl rfl ⟨(blk_cell ac.out 0).trans rfl, bg, bp⟩ (fun hHeld => ?_); refine with_tabW IIT.tab16 IIT.bits16 (fun HT_ HW_ => ?_)
              generalize wr.drew = w75 at aw aV a5 aa ad ac ab af HB bg bp hHeld ⊢
              refine pure_ (i := 0) (N := some 93) (v := ?_) (a' := ?_) #[true, false, false, false, false, false, false, false, false, false, false, false, false, false, false] rfl rfl (any_of HT_.out (by kernel_rfl)) (fun _ _ _ h => h) (Or.inl ⟨by rfl, ?_⟩) ?_ ?_
              rotate_left
              ·intro w'
               go_simp
               with_reducible rfl
              rotate_left
              ·simp only [Act.put, List.setIfInBounds_toArray, List.set_cons_zero, List.set_cons_succ, i64_w, i32_w]
               rfl
              refine pure_ (i := 1) (N := some 94) (v := ?_) (a' := ?_) #[true, true, false, false, false, false, false, false, false, false, false, false, false, false, false] rfl rfl (any_of HT_.out (by kernel_rfl)) (fun _ _ _ h => h) (Or.inl ⟨by rfl, ?_⟩) ?_ ?_
              rotate_left
              ·intro w'
               go_simp
               with_reducible rfl
              rotate_left
              ·simp only [Act.put, List.setIfInBounds_toArray, List.set_cons_zero, List.set_cons_succ, i64_w, i32_w]
               rfl
              refine pure_ (i := 2) (N := some 95) (v := ?_) (a' := ?_) #[true, true, true, false, false, false, false, false, false, false, false, false, false, false, false] rfl rfl (any_of HT_.out (by kernel_rfl)) (fun _ _ _ h => h) (Or.inl ⟨by rfl, ?_⟩) ?_ ?_
              rotate_left
              ·intro w'
               go_simp
               with_reducible rfl
              rotate_left
              ·simp only [Act.put, List.setIfInBounds_toArray, List.set_cons_zero, List.set_cons_succ, i64_w, i32_w]
               rfl
              refine take_ (i := 3) (N := some 96) (v := ?_) (a' := ?_) #[true, true, true, true, false, false, false, false, false, false, false, false, false, false, false] rfl rfl (take_ofW HT_.out HW_.out (by kernel_rfl)) (fun _ _ _ h => h) (Or.inl ⟨by rfl, ?_⟩) hHeld ?_ ?_
              rotate_left
              ·rintro w' ⟨s0, s1, s2⟩
               go_simp
               with_reducible rfl
              rotate_left
              ·simp only [Act.put, List.setIfInBounds_toArray, List.set_cons_zero, List.set_cons_succ, i64_w, i32_w]
               rfl
              refine pure_ (i := 4) (N := some 97) (v := ?_) (a' := ?_) #[true, true, true, true, true, false, false, false, false, false, false, false, false, false, false] rfl rfl (any_of HT_.out (by kernel_rfl)) (fun _ _ _ h => h) (Or.inl ⟨by rfl, ?_⟩) ?_ ?_
              rotate_left
              ·intro w'
               go_simp
               with_reducible rfl
              rotate_left
              ·simp only [Act.put, List.setIfInBounds_toArray, List.set_cons_zero, List.set_cons_succ, i64_w, i32_w]
               rfl
              refine pure_ (i := 5) (N := some 98) (v := ?_) (a' := ?_) #[true, true, true, true, true, true, false, false, false, false, false, false, false, false, false] rfl rfl (any_of HT_.out (by kernel_rfl)) (fun _ _ _ h => h) (Or.inl ⟨by rfl, ?_⟩) ?_ ?_
              rotate_left
              ·intro w'
               go_simp
               with_reducible rfl
              rotate_left
              ·simp only [Act.put, List.setIfInBounds_toArray, List.set_cons_zero, List.set_cons_succ, i64_w, i32_w]
               rfl
              refine pure_ (i := 6) (N := some 99) (v := ?_) (a' := ?_) #[true, true, true, true, true, true, true, false, false, false, false, false, false, false, false] rfl rfl (any_of HT_.out (by kernel_rfl)) (fun _ _ _ h => h) (Or.inl ⟨by rfl, ?_⟩) ?_ ?_
              rotate_left
              ·intro w'
               go_simp
               with_reducible rfl
              rotate_left
              ·simp only [Act.put, List.setIfInBounds_toArray, List.set_cons_zero, List.set_cons_succ, i64_w, i32_w]
               rfl
              refine pure_ (i := 7) (N := some 100) (v := ?_) (a' := ?_) #[true, true, true, true, true, true, true, true, false, false, false, false, false, false, false] rfl rfl (any_of HT_.out (by kernel_rfl)) (fun _ _ _ h => h) (Or.inl ⟨by rfl, ?_⟩) ?_ ?_
              rotate_left
              ·intro w'
               go_simp
               with_reducible rfl
              rotate_left
              ·simp only [Act.put, List.setIfInBounds_toArray, List.set_cons_zero, List.set_cons_succ, i64_w, i32_w]
               rfl
              refine pure_ (i := 8) (N := some 101) (v := ?_) (a' := ?_) #[true, true, true, true, true, true, true, true, true, false, false, false, false, false, false] rfl rfl (any_of HT_.out (by kernel_rfl)) (fun _ _ _ h => h) (Or.inl ⟨by rfl, ?_⟩) ?_ ?_
              rotate_left
              ·intro w'
               go_simp
               with_reducible rfl
              rotate_left
              ·simp only [Act.put, List.setIfInBounds_toArray, List.set_cons_zero, List.set_cons_succ, i64_w, i32_w]
               rfl
              refine pure_ (i := 10) (N := some 103) (v := ?_) (a' := ?_) #[true, true, true, true, true, true, true, true, true, false, true, false, false, false, false] rfl rfl (any_of HT_.out (by kernel_rfl)) (fun _ _ _ h => h) (Or.inl ⟨by rfl, ?_⟩) ?_ ?_
              rotate_left
              ·intro w'
               go_simp
               with_reducible rfl
              rotate_left
              ·simp only [Act.put, List.setIfInBounds_toArray, List.set_cons_zero, List.set_cons_succ, i64_w, i32_w]
               rfl
              refine take_ (i := 9) (N := some 102) (v := ?_) (a' := ?_) #[true, true, true, true, true, true, true, true, true, true, true, false, false, false, false] rfl rfl (take_ofW HT_.out HW_.out (by kernel_rfl)) (fun _ _ _ h => h) (Or.inl ⟨by rfl, ?_⟩) hHeld ?_ ?_
              rotate_left
              ·rintro w' ⟨s0, s1, s2⟩
               go_simp
               with_reducible rfl
              rotate_left
              ·simp only [Act.put, List.setIfInBounds_toArray, List.set_cons_zero, List.set_cons_succ, i64_w, i32_w]
               rfl
              refine take_ (i := 11) (N := some 104) (v := ?_) (a' := ?_) #[true, true, true, true, true, true, true, true, true, true, true, true, false, false, false] rfl rfl (take_ofW HT_.out HW_.out (by kernel_rfl)) (fun _ _ _ h => h) (Or.inl ⟨by rfl, ?_⟩) hHeld ?_ ?_
              rotate_left
              ·rintro w' ⟨s0, s1, s2⟩
               go_simp
               with_reducible rfl
              rotate_left
              ·simp only [Act.put, List.setIfInBounds_toArray, List.set_cons_zero, List.set_cons_succ, i64_w, i32_w]
               rfl
              refine pure_ (i := 12) (N := some 105) (v := ?_) (a' := ?_) #[true, true, true, true, true, true, true, true, true, true, true, true, true, false, false] rfl rfl (any_of HT_.out (by kernel_rfl)) (fun _ _ _ h => h) (Or.inl ⟨by rfl, ?_⟩) ?_ ?_
              rotate_left
              ·intro w'
               go_simp
               with_reducible rfl
              rotate_left
              ·simp only [Act.put, List.setIfInBounds_toArray, List.set_cons_zero, List.set_cons_succ, i64_w, i32_w]
               rfl
              refine pure_ (i := 13) (N := some 106) (v := ?_) (a' := ?_) #[true, true, true, true, true, true, true, true, true, true, true, true, true, true, false] rfl rfl (any_of HT_.out (by kernel_rfl)) (fun _ _ _ h => h) (Or.inl ⟨by rfl, ?_⟩) ?_ ?_
              rotate_left
              ·intro w'
               go_simp
               with_reducible rfl
              rotate_left
              ·simp only [Act.put, List.setIfInBounds_toArray, List.set_cons_zero, List.set_cons_succ, i64_w, i32_w]
               rfl
              refine pure_ (i := 14) (N := some 107) (v := ?_) (a' := ?_) #[true, true, true, true, true, true, true, true, true, true, true, true, true, true, true] rfl rfl (any_of HT_.out (by kernel_rfl)) (fun _ _ _ h => h) (Or.inl ⟨by rfl, ?_⟩) ?_ ?_
              rotate_left
              ·intro w'
               go_simp
               with_reducible rfl
              rotate_left
              ·simp only [Act.put, List.setIfInBounds_toArray, List.set_cons_zero, List.set_cons_succ, i64_w, i32_w]
               rfl
              refine done_ (done_of HT_.out (by kernel_rfl)) ?_
              try go_wp2
              have n0_ := Aside0.mk (Kd.V_drew aw.out)
              have n1_ := Aside0.mk (Kd.R_drew aV.out)
              have n2_ := Aside0.mk (Kd.R_drew a5.out)
              have n3_ := Aside0.mk (Kd.R_drew aa.out)
              have n4_ := Aside0.mk (Kd.V_drew ad.out)
              have n5_ := Aside0.mk (blk_drew ac.out)
              have n6_ := Aside0.mk (blk_drew ab.out)
              have n7_ := Aside0.mk (blk_drew af.out)
              have n8_ := Aside0.mk (below_drew1 HB.out)
              clear aw aV a5 aa ad ac ab af HB
              have aw := n0_
              have aV := n1_
              have a5 := n2_
              have aa := n3_
              have ad := n4_
              have ac := n5_
              have ab := n6_
              have af := n7_
              have HB := n8_
              clear n0_ n1_ n2_ n3_ n4_ n5_ n6_ n7_ n8_
              have p436 : 0 ≤ (aq : Int) := of_decide_eq_true (by first | (with_reducible assumption) | assumption)
              have q436 : aq < (aG.length : Int) := of_decide_eq_true (by first | (with_reducible assumption) | assumption)
              obtain ⟨ad436, e436, bA⟩ := Kd.at_int (Kd.V_reads' aw.out).2.2 aq p436 q436
              obtain rfl : ad434 = ad436 := (by injection e436)
              replace p436 := eq_true p436
              replace q436 := eq_true q436
              have p437 : 0 ≤ ((rd aG aq) : Int) := of_decide_eq_true (by first | (with_reducible assumption) | assumption)
              have q437 : (rd aG aq) < (ae.length : Int) := of_decide_eq_true (by first | (with_reducible assumption) | assumption)
              obtain ⟨ad437, e437, bB, bC⟩ := at_T34 (Kd.R_reads' aa.out).2.2 (rd aG aq) p437 q437
              cases e437
              replace p437 := eq_true p437
              replace q437 := eq_true q437
              refine start_ (n := 12) (S := fun w' => w'.cell? ⟨ah, 0, none⟩ = some (.slice (some ad437) ae.length am) ∧ w'.cell? (ad434.add (aq).toNat) = some (.int .i64 (rd aG aq)) ∧ w'.cell? (ad437.add (((rd aG aq)).toNat * 2)) = some (.string ((rd_T34 ae (rd aG aq)).f0)) ∧ w'.cell? ⟨(ad437.add (((rd aG aq)).toNat * 2)).block, (ad437.add (((rd aG aq)).toNat * 2)).off + 1, none⟩ = some (.string ((rd_T34 ae (rd aG aq)).f1))) (ds := [9, 10]) #[false, false, false, false, false, false, false, false, false, false, false, false] (by kernel_rfl) rfl rfl ⟨(blk_cell ac.out 0).trans rfl, bA, bB, bC⟩ (fun hHeld => ?_); refine with_tabW IIT.tab18 IIT.bits18 (fun HT_ HW_ => ?_)
              generalize w75.drew = w76 at aw aV a5 aa ad ac ab af HB bA bB bC hHeld ⊢
              refine pure_ (i := 0) (N := some 108) (v := ?_) (a' := ?_) #[true, false, false, false, false, false, false, false, false, false, false, false] rfl rfl (any_of HT_.out (by kernel_rfl)) (fun _ _ _ h => h) (Or.inl ⟨by rfl, ?_⟩) ?_ ?_
              rotate_left
              ·intro w'
               go_simp
               with_reducible rfl
              rotate_left
              ·simp only [Act.put, List.setIfInBounds_toArray, List.set_cons_zero, List.set_cons_succ, i64_w, i32_w]
               rfl
              refine pure_ (i := 1) (N := some 109) (v := ?_) (a' := ?_) #[true, true, false, false, false, false, false, false, false, false, false, false] rfl rfl (any_of HT_.out (by kernel_rfl)) (fun _ _ _ h => h) (Or.inl ⟨by rfl, ?_⟩) ?_ ?_
              rotate_left
              ·intro w'
               go_simp
               with_reducible rfl
              rotate_left
              ·simp only [Act.put, List.setIfInBounds_toArray, List.set_cons_zero, List.set_cons_succ, i64_w, i32_w]
               rfl
              refine pure_ (i := 3) (N := some 111) (v := ?_) (a' := ?_) #[true, true, false, true, false, false, false, false, false, false, false, false] rfl rfl (any_of HT_.out (by kernel_rfl)) (fun _ _ _ h => h) (Or.inl ⟨by rfl, ?_⟩) ?_ ?_
              rotate_left
              ·intro w'
               go_simp
               with_reducible rfl
              rotate_left
              ·simp only [Act.put, List.setIfInBounds_toArray, List.set_cons_zero, List.set_cons_succ, i64_w, i32_w]
               rfl
              refine pure_ (i := 4) (N := some 112) (v := ?_) (a' := ?_) #[true, true, false, true, true, false, false, false, false, false, false, false] rfl rfl (any_of HT_.out (by kernel_rfl)) (fun _ _ _ h => h) (Or.inl ⟨by rfl, ?_⟩) ?_ ?_
              rotate_left
              ·intro w'
               go_simp
               with_reducible rfl
              rotate_left
              ·simp only [Act.put, List.setIfInBounds_toArray, List.set_cons_zero, List.set_cons_succ, i64_w, i32_w]
               rfl
              refine pure_ (i := 5) (N := some 113) (v := ?_) (a' := ?_) #[true, true, false, true, true, true, false, false, false, false, false, false] rfl rfl (any_of HT_.out (by kernel_rfl)) (fun _ _ _ h => h) (Or.inl ⟨by rfl, ?_⟩) ?_ ?_
              rotate_left
              ·intro w'
               go_simp
               with_reducible rfl
              rotate_left
              ·simp only [Act.put, List.setIfInBounds_toArray, List.set_cons_zero, List.set_cons_succ, i64_w, i32_w]
               rfl
              refine take_ (i := 2) (N := some 110) (v := ?_) (a' := ?_) #[true, true, true, true, true, true, false, false, false, false, false, false] rfl rfl (take_ofW HT_.out HW_.out (by kernel_rfl)) (fun _ _ _ h => h) (Or.inl ⟨by rfl, ?_⟩) hHeld ?_ ?_
              rotate_left
              ·rintro w' ⟨s0, s1, s2, s3⟩
               go_simp
               with_reducible rfl
              rotate_left
              ·simp only [Act.put, List.setIfInBounds_toArray, List.set_cons_zero, List.set_cons_succ, i64_w, i32_w]
               rfl
              refine take_ (i := 6) (N := some 114) (v := ?_) (a' := ?_) #[true, true, true, true, true, true, true, false, false, false, false, false] rfl rfl (take_ofW HT_.out HW_.out (by kernel_rfl)) (fun _ _ _ h => h) (Or.inl ⟨by rfl, ?_⟩) hHeld ?_ ?_
              rotate_left
              ·rintro w' ⟨s0, s1, s2, s3⟩
               go_simp
               with_reducible rfl
              rotate_left
              ·simp only [Act.put, List.setIfInBounds_toArray, List.set_cons_zero, List.set_cons_succ, i64_w, i32_w]
               rfl
              refine pure_ (i := 7) (N := some 115) (v := ?_) (a' := ?_) #[true, true, true, true, true, true, true, true, false, false, false, false] rfl rfl (any_of HT_.out (by kernel_rfl)) (fun _ _ _ h => h) (Or.inl ⟨by rfl, ?_⟩) ?_ ?_
              rotate_left
              ·intro w'
               go_simp
               with_reducible rfl
              rotate_left
              ·simp only [Act.put, List.setIfInBounds_toArray, List.set_cons_zero, List.set_cons_succ, i64_w, i32_w]
               rfl
              refine take_ (i := 8) (N := some 116) (v := ?_) (a' := ?_) #[true, true, true, true, true, true, true, true, true, false, false, false] rfl rfl (take_ofW HT_.out HW_.out (by kernel_rfl)) (fun _ _ _ h => h) (Or.inl ⟨by rfl, ?_⟩) hHeld ?_ ?_
              rotate_left
              ·rintro w' ⟨s0, s1, s2, s3⟩
               go_simp
               with_reducible rfl
              rotate_left
              ·simp only [Act.put, List.setIfInBounds_toArray, List.set_cons_zero, List.set_cons_succ, i64_w, i32_w]
               rfl
              refine last_ (i := 9) (N := some 117) #[true, true, true, true, true, true, true, true, true, true, false, false] rfl rfl (one_of HT_.out (by kernel_rfl)) (by decide) (fun K hK => ?_)
              refine value_ (w1 := ?_) (v := ?_) (by rfl) rfl ?_ ?_
              rotate_left 2
              ·go_simp
               constructor
               ·rfl
               ·rfl
              refine hK.out _ _ ?_
              clear hK K
              refine norm_ (a' := ?_) ?_ ?_
              rotate_left
              ·show Act.put _ (some 117) _ = _
               simp only [Act.put, List.setIfInBounds_toArray, List.set_cons_zero, List.set_cons_succ, i64_w, i32_w]
               rfl
              refine last_ (i := 10) (N := some 118) #[true, true, true, true, true, true, true, true, true, true, true, false] rfl rfl (one_of HT_.out (by kernel_rfl)) (by decide) (fun K hK => ?_)
              refine Kd.R_append_step k34 (w0 := w) w.heap.size (by rfl) (.tmp 108) (.tmp 117) 22 34 (.agg #[(.string ⟨#[]⟩), (.string ⟨#[]⟩)]) 32 rfl Tryd.underlying22 info34 rfl (by decide) (by omega) u14 br (⟨(rd_T34 ae (rd aG aq)).f0, (rd_T34 ae (rd aG aq)).f1⟩ : S34) [.string ((rd_T34 ae (rd aG aq)).f0), .string ((rd_T34 ae (rd aG aq)).f1)] (fun k_ => (w.heap.size ≤ k_) ∧ some k_ ≠ (bJ : Value).ownBlock ∧ some k_ ≠ (.slice (some ad437) ae.length am : Value).ownBlock ∧ k_ ≠ ag) (fun _ => False) rfl rfl ?aP (fun _ hk => hk.elim) ?aF ?aO ?aB ?aS ?aL ?_
              (case aP => exact k34_mkM _ _ _ (⟨(rd_T34 ae (rd aG aq)).f0, (rd_T34 ae (rd aG aq)).f1⟩ : S34))
              (case aB => exact (by repeat (first | (with_reducible first | exact HB.out | apply below_alloc | apply pw_below_drewN | apply below_drew1 | refine below_set ?_ an.out | refine below_set ?_ ao.out | refine below_set ?_ au.out) | exact HB.out)))
              (case aF => exact (fun k_ hk => ⟨(Nat.le_trans (below_size (by repeat (first | (with_reducible first | exact HB.out | apply below_alloc | apply pw_below_drewN | apply below_drew1 | refine below_set ?_ an.out | refine below_set ?_ ao.out | refine below_set ?_ au.out) | exact HB.out))) hk), Kd.fresh' (Kd.R_lt (by (with_reducible repeat (first | apply Kd.R_alloc | apply Kd.R_drewN | apply Kd.R_drew)); exact aV.out)) k_ hk, Kd.fresh' (Kd.R_lt (by (with_reducible repeat (first | apply Kd.R_alloc | apply Kd.R_drewN | apply Kd.R_drew)); exact aa.out)) k_ hk, Kd.freshB (g := ag) (o := .cells #[.string ai, .string aj] 34 (0, 0)) (by (with_reducible repeat (first | refine blk_drewN ?_ _ | refine blk_drew ?_ | refine blk_alloc ?_ _)); exact ab.out) k_ hk⟩))
              (case aO => exact (by (with_reducible repeat (first | apply Kd.R_alloc | apply Kd.R_drewN | apply Kd.R_drew)); exact a5.out))
              (case aS => exact (below_size (by repeat (first | (with_reducible first | exact HB.out | apply below_alloc | apply pw_below_drewN | apply below_drew1 | refine below_set ?_ an.out | refine below_set ?_ ao.out | refine below_set ?_ au.out) | exact HB.out))))
              (case aL => have := LMc74.out; omega)
              intro jA w77 ho hb hg hat
              rw [← Ny438.out] at ho
              have n0_ := Aside0.mk (Kd.V_afterv (ok := (fun k_ => (P2_ k_ ∨ w.heap.size ≤ k_) ∧ some k_ ≠ (bJ : Value).ownBlock ∧ some k_ ≠ (.slice (some ad437) ae.length am : Value).ownBlock ∧ k_ ≠ ah ∧ k_ ≠ ag ∧ k_ ≠ al)) (by (with_reducible repeat (first | apply Kd.V_alloc | apply Kd.V_drewN | apply Kd.V_drew)); exact Kd.V_mono aw.out (fun _ hk => ⟨⟨hk.1, ⟨hk.2.1, ⟨hk.2.2.2.1, ⟨hk.2.2.2.2.1, ⟨hk.2.2.2.2.2.1, hk.2.2.2.2.2.2⟩⟩⟩⟩⟩, hk.2.2.1⟩)) hg hat)
              have n1_ := Aside0.mk (Kd.R_after (ok := (fun k_ => (w.heap.size ≤ k_) ∧ some k_ ≠ (.slice (some ad437) ae.length am : Value).ownBlock ∧ k_ ≠ ag)) (by (with_reducible repeat (first | apply Kd.R_alloc | apply Kd.R_drewN | apply Kd.R_drew)); exact Kd.R_mono aV.out (fun _ hk => ⟨⟨hk.1, ⟨hk.2.2.1, hk.2.2.2⟩⟩, hk.2.1⟩)) hg hat)
              have n2_ := Aside0.mk (Kd.R_after (ok := (fun k_ => (w.heap.size ≤ k_) ∧ some k_ ≠ (bJ : Value).ownBlock ∧ k_ ≠ ag)) (by (with_reducible repeat (first | apply Kd.R_alloc | apply Kd.R_drewN | apply Kd.R_drew)); exact Kd.R_mono aa.out (fun _ hk => ⟨⟨hk.1, ⟨hk.2.1, hk.2.2.2⟩⟩, hk.2.2.1⟩)) hg hat)
              have n3_ := Aside0.mk (Kd.V_afterv (ok := (fun k_ => (P2_ k_ ∨ w.heap.size ≤ k_) ∧ some k_ ≠ (bJ : Value).ownBlock ∧ k_ ≠ ah ∧ k_ ≠ ag ∧ k_ ≠ al)) (by (with_reducible repeat (first | apply Kd.V_alloc | apply Kd.V_drewN | apply Kd.V_drew)); exact Kd.V_mono ad.out (fun _ hk => ⟨⟨hk.1, ⟨hk.2.1, ⟨hk.2.2.2.1, ⟨hk.2.2.2.2.1, hk.2.2.2.2.2⟩⟩⟩⟩, hk.2.2.1⟩)) hg hat)
              have n4_ := Aside0.mk (blk_grown (g := ah) (o := .cells #[.slice (some ad437) ae.length am] 24 (0, 0)) (by (with_reducible repeat (first | refine blk_drewN ?_ _ | refine blk_drew ?_ | refine blk_alloc ?_ _)); exact ac.out) hg (Kd.R_ne a5.out ac.out (by decide)))
              have n5_ := Aside0.mk (blk_grown (g := ag) (o := .cells #[.string ai, .string aj] 34 (0, 0)) (by (with_reducible repeat (first | refine blk_drewN ?_ _ | refine blk_drew ?_ | refine blk_alloc ?_ _)); exact ab.out) hg (Kd.R_away a5.out (fun _ hk => hk.2.2.2)))
              have n6_ := Aside0.mk (blk_grown (g := al) (o := .cells #[.slice aY ak.length aZ] 24 (0, 0)) (by (with_reducible repeat (first | refine blk_drewN ?_ _ | refine blk_drew ?_ | refine blk_alloc ?_ _)); exact af.out) hg (Kd.R_ne a5.out af.out (by decide)))
              have n7_ := Aside0.mk (hb)
              have n8_ := Aside0.mk (ho)
              clear aw aV aa ad ac ab af HB a5
              have aw := n0_
              have aV := n1_
              have aa := n2_
              have ad := n3_
              have ac := n4_
              have ab := n5_
              have af := n6_
              have HB := n7_
              have fE := n8_
              clear n0_ n1_ n2_ n3_ n4_ n5_ n6_ n7_ n8_ ho hb hg hat
              refine hK.out _ _ ?_
              clear hK K
              refine norm_ (a' := ?_) ?_ ?_
              rotate_left
              ·show Act.put _ (some 118) _ = _
               simp only [Act.put, List.setIfInBounds_toArray, List.set_cons_zero, List.set_cons_succ, i64_w, i32_w]
               rfl
              refine pure_ (i := 11) (N := some 14) (v := ?_) (a' := ?_) #[true, true, true, true, true, true, true, true, true, true, true, true] rfl rfl (any_of HT_.out (by kernel_rfl)) (fun _ _ _ h => h) (Or.inl ⟨by rfl, ?_⟩) ?_ ?_
              rotate_left
              ·intro w'
               go_simp
               with_reducible rfl
              rotate_left
              ·simp only [Act.put, List.setIfInBounds_toArray, List.set_cons_zero, List.set_cons_succ, i64_w, i32_w]
               rfl
              refine done_ (done_of HT_.out (by kernel_rfl)) ?_
              try go_wp2
              go_roundg k2
              case measure => have := HJ5.out; have := HK2.out; omega
              case rel => exact ⟨(fD), (bK), (wrap64 (aq + 1)), (by first | rfl | (simp; done) | (simp [*]; done)), (by first | rfl | (simp; done) | (simp [*]; done)), H', ⟨by have := HJ5.out; have := HK2.out; omega⟩, ⟨by (with_reducible repeat (first | apply Kd.V_alloc | apply Kd.V_drewN | apply Kd.V_drew)); exact Kd.V_mono aw.out (fun _ hk => ⟨hk.1.1, ⟨hk.1.2.1, ⟨hk.2, ⟨hk.1.2.2.1, ⟨hk.1.2.2.2.1, ⟨hk.1.2.2.2.2.1, hk.1.2.2.2.2.2⟩⟩⟩⟩⟩⟩)⟩, ⟨by (with_reducible repeat (first | apply Kd.R_alloc | apply Kd.R_drewN | apply Kd.R_drew)); exact Kd.R_mono aV.out (fun _ hk => ⟨hk.1.1, ⟨hk.2, ⟨hk.1.2.1, hk.1.2.2⟩⟩⟩)⟩, ⟨by (with_reducible repeat (first | apply Kd.R_alloc | apply Kd.R_drewN | apply Kd.R_drew)); exact fE.out⟩, ⟨by (with_reducible repeat (first | apply Kd.R_alloc | apply Kd.R_drewN | apply Kd.R_drew)); exact Kd.R_mono aa.out (fun _ hk => ⟨hk.1.1, ⟨hk.1.2.1, ⟨hk.2, hk.1.2.2⟩⟩⟩)⟩, ⟨by (with_reducible repeat (first | apply Kd.V_alloc | apply Kd.V_drewN | apply Kd.V_drew)); exact Kd.V_mono ad.out (fun _ hk => ⟨hk.1.1, ⟨hk.1.2.1, ⟨hk.2, ⟨hk.1.2.2.1, ⟨hk.1.2.2.2.1, hk.1.2.2.2.2⟩⟩⟩⟩⟩)⟩, ⟨by (with_reducible repeat (first | refine blk_drewN ?_ _ | refine blk_drew ?_ | refine blk_alloc ?_ _)); exact ac.out⟩, ⟨by (with_reducible repeat (first | refine blk_drewN ?_ _ | refine blk_drew ?_ | refine blk_alloc ?_ _)); exact ab.out⟩, ⟨by (with_reducible repeat (first | refine blk_drewN ?_ _ | refine blk_drew ?_ | refine blk_alloc ?_ _)); exact af.out⟩, ⟨by repeat (first | (with_reducible first | exact HB.out | apply below_alloc | apply pw_below_drewN | apply below_drew1 | refine below_set ?_ an.out | refine below_set ?_ ao.out | refine below_set ?_ au.out) | exact HB.out)⟩⟩
             ·rw [if_neg c74] at H
              exact absurd H (by simp)
            ·rw [if_neg c73] at H
             exact absurd H (by simp)
           ·rw [if_neg c72] at H
            exact absurd H (by simp)
        ·rw [if_neg c67] at H
         exact absurd H (by simp)
       ·as_aux_lemma =>
        rw [if_neg c66] at H
        have ce : decide (aq < (aG.length : Int)) = false := decide_eq_false c66
        clear c66
        have eT := Aside0.mk H
        clear H
        go_upto_region 19 with (fail)
        go_cut [142] (fun gT wc => ∃ (kq : Nat) (bD : Bool), gT = .bool bD ∧ Aside0 (IIT.j2 kq aA aE ax ar bD ae ai aj ak = some r) ∧ Aside0 (kq ≤ k2) ∧ Aside0 (Kd.R k34 34 wc w.heap.size (fun k_ => (w.heap.size ≤ k_) ∧ k_ ≠ ag) (.slice ap ae.length am) ae) ∧ Aside0 (Kd.V k34 34 wc w.heap.size (fun k_ => (P2_ k_ ∨ w.heap.size ≤ k_) ∧ k_ ≠ ah ∧ k_ ≠ ag ∧ k_ ≠ al) (.slice aY ak.length aZ) ak) ∧ Aside0 (wc.heap[ah]? = some (.cells #[(.slice ap ae.length am)] 24 (0, 0))) ∧ Aside0 (wc.heap[ag]? = some (.cells #[.string ai, .string aj] 34 (0, 0))) ∧ Aside0 (wc.heap[al]? = some (.cells #[(.slice aY ak.length aZ)] 24 (0, 0))) ∧ Aside0 (Below w.heap.size w wc))
        case first =>
         have H := eT.out
         clear eT
         by_cases c79 : bK = true
         ·subst c79
          have H1 : (if (bc.length : Int) > 0 then (IIT.j2 k2 aA aE ax ar true ae ai aj ak) else (if be = 2 then (IIT.j2 k2 aA aE ax ar false ae ai aj ak) else (IIT.j2 k2 aA aE ax ar true ae ai aj ak))) = some r := by rw [if_pos rfl] at H; exact H
          clear H
          have H := H1
          clear H1
          by_cases c80 : (bc.length : Int) > 0
          ·rw [if_pos c80] at H
           have bG : decide (0 < (bc.length : Int)) = true := decide_eq_true c80
           have cg : decide (0 < bc.length) = true := decide_eq_true (by omega)
           clear c80
           (first | rw [bG] | (simp only [i64_w, i32_w]; rw [bG]) | skip)
           have H' := Aside0.mk H
           clear H
           obtain ⟨jB, jC, gU⟩ := Kd.R_slice aV.out
           subst gU
           go_wp2
           go_meet
           case rel => exact ⟨_, (true), (by first | rfl | (simp; done) | (simp [*]; done)), H', ⟨by have := HJ5.out; have := HK2.out; first | omega | exact Nat.le_refl _⟩, ⟨by (with_reducible repeat (first | apply Kd.R_alloc | apply Kd.R_drewN | apply Kd.R_drew)); exact Kd.R_mono aa.out (fun _ hk => ⟨hk.1, hk.2.2.2⟩)⟩, ⟨by (with_reducible repeat (first | apply Kd.V_alloc | apply Kd.V_drewN | apply Kd.V_drew)); exact Kd.V_mono ad.out (fun _ hk => ⟨hk.1, ⟨hk.2.2.2.1, ⟨hk.2.2.2.2.1, hk.2.2.2.2.2⟩⟩⟩)⟩, ⟨by (with_reducible repeat (first | refine blk_drewN ?_ _ | refine blk_drew ?_ | refine blk_alloc ?_ _)); exact ac.out⟩, ⟨by (with_reducible repeat (first | refine blk_drewN ?_ _ | refine blk_drew ?_ | refine blk_alloc ?_ _)); exact ab.out⟩, ⟨by (with_reducible repeat (first | refine blk_drewN ?_ _ | refine blk_drew ?_ | refine blk_alloc ?_ _)); exact af.out⟩, ⟨by repeat (first | (with_reducible first | exact HB.out | apply below_alloc | apply pw_below_drewN | apply below_drew1 | refine below_set ?_ an.out | refine below_set ?_ ao.out | refine below_set ?_ au.out) | exact HB.out)⟩⟩
          ·rw [if_neg c80] at H
           have bG : decide (0 < (bc.length : Int)) = false := decide_eq_false c80
           have cg : decide (0 < bc.length) = false := decide_eq_false (by omega)
           clear c80
           (first | rw [bG] | (simp only [i64_w, i32_w]; rw [bG]) | skip)
           by_cases c82 : be = 2
           ·rw [if_pos c82] at H
            have ch : (be == 2) = true := beq_iff_eq.mpr c82
            have ci : (be != 2) = false := bne_eq_false_iff_eq.mpr c82
            clear c82
            have H' := Aside0.mk H
            clear H
            obtain ⟨jD, jE, gV⟩ := Kd.R_slice aV.out
            subst gV
            go_wp2
            go_meet
            case rel => exact ⟨_, (false), (by first | rfl | (simp; done) | (simp [*]; done)), H', ⟨by have := HJ5.out; have := HK2.out; first | omega | exact Nat.le_refl _⟩, ⟨by (with_reducible repeat (first | apply Kd.R_alloc | apply Kd.R_drewN | apply Kd.R_drew)); exact Kd.R_mono aa.out (fun _ hk => ⟨hk.1, hk.2.2.2⟩)⟩, ⟨by (with_reducible repeat (first | apply Kd.V_alloc | apply Kd.V_drewN | apply Kd.V_drew)); exact Kd.V_mono ad.out (fun _ hk => ⟨hk.1, ⟨hk.2.2.2.1, ⟨hk.2.2.2.2.1, hk.2.2.2.2.2⟩⟩⟩)⟩, ⟨by (with_reducible repeat (first | refine blk_drewN ?_ _ | refine blk_drew ?_ | refine blk_alloc ?_ _)); exact ac.out⟩, ⟨by (with_reducible repeat (first | refine blk_drewN ?_ _ | refine blk_drew ?_ | refine blk_alloc ?_ _)); exact ab.out⟩, ⟨by (with_reducible repeat (first | refine blk_drewN ?_ _ | refine blk_drew ?_ | refine blk_alloc ?_ _)); exact af.out⟩, ⟨by repeat (first | (with_reducible first | exact HB.out | apply below_alloc | apply pw_below_drewN | apply below_drew1 | refine below_set ?_ an.out | refine below_set ?_ ao.out | refine below_set ?_ au.out) | exact HB.out)⟩⟩
           ·rw [if_neg c82] at H
            have ch : (be == 2) = false := beq_eq_false_iff_ne.mpr c82
            have ci : (be != 2) = true := bne_iff_ne.mpr c82
            have H' := Aside0.mk H
            clear H
            obtain ⟨jF, jG, gW⟩ := Kd.R_slice aV.out
            subst gW
            go_wp2
            go_meet
            case rel => exact ⟨_, (true), (by first | rfl | (simp; done) | (simp [*]; done)), H', ⟨by have := HJ5.out; have := HK2.out; first | omega | exact Nat.le_refl _⟩, ⟨by (with_reducible repeat (first | apply Kd.R_alloc | apply Kd.R_drewN | apply Kd.R_drew)); exact Kd.R_mono aa.out (fun _ hk => ⟨hk.1, hk.2.2.2⟩)⟩, ⟨by (with_reducible repeat (first | apply Kd.V_alloc | apply Kd.V_drewN | apply Kd.V_drew)); exact Kd.V_mono ad.out (fun _ hk => ⟨hk.1, ⟨hk.2.2.2.1, ⟨hk.2.2.2.2.1, hk.2.2.2.2.2⟩⟩⟩)⟩, ⟨by (with_reducible repeat (first | refine blk_drewN ?_ _ | refine blk_drew ?_ | refine blk_alloc ?_ _)); exact ac.out⟩, ⟨by (with_reducible repeat (first | refine blk_drewN ?_ _ | refine blk_drew ?_ | refine blk_alloc ?_ _)); exact ab.out⟩, ⟨by (with_reducible repeat (first | refine blk_drewN ?_ _ | refine blk_drew ?_ | refine blk_alloc ?_ _)); exact af.out⟩, ⟨by repeat (first | (with_reducible first | exact HB.out | apply below_alloc | apply pw_below_drewN | apply below_drew1 | refine below_set ?_ an.out | refine below_set ?_ ao.out | refine below_set ?_ au.out) | exact HB.out)⟩⟩
         ·replace c79 := Bool.eq_false_iff.mpr c79
          subst c79
          have H1 : ((graftwoodref05_Same.f k2 bc br).bind fun b_ => (if b_ = true then (IIT.j2 k2 aA aE ax ar (be != 0) ae ai aj ak) else (IIT.j2 k2 aA aE ax ar true ae ai aj ak))) = some r := by rw [if_neg (show ¬ (false = true) by decide)] at H; exact H
          clear H
          have H := H1
          clear H1
          replace H := Option.bind_eq_some_iff.mp H
          obtain ⟨b_, fF, H⟩ := H
          replace H : (if b_ = true then (IIT.j2 k2 aA aE ax ar (be != 0) ae ai aj ak) else (IIT.j2 k2 aA aE ax ar true ae ai aj ak)) = some r := H
          have A85 := Aside0.mk fF
          clear fF
          by_cases c86 : b_ = true
          ·subst c86
           have H1 : (IIT.j2 k2 aA aE ax ar (be != 0) ae ai aj ak) = some r := by rw [if_pos rfl] at H; exact H
           clear H
           have H := H1
           clear H1
           have H' := Aside0.mk H
           clear H
           obtain ⟨jH, jI, gX⟩ := Kd.R_slice aV.out
           subst gX
           obtain ⟨jJ, jK, gY⟩ := Kd.R_slice a5.out
           subst gY
           go_wp2_with (first | (go_at_call 19; (with_reducible refine (graftwoodref05_Same.calls k2 _ _ bc _ _ br true _ ?side1 ?side2 ?side3 ?side4 A85.out).mono ?_); (case side1 => repeat (first | exact (Kd.R_reads' aV.out).2.2 | (with_reducible refine Kd.C_alloc ?_ _) | (with_reducible refine Kd.C_drewN ?_ _) | (with_reducible refine Kd.C_drew ?_))); (case side2 => exact (Kd.R_reads' aV.out).2.1); (case side3 => repeat (first | exact (Kd.R_reads' a5.out).2.2 | (with_reducible refine Kd.C_alloc ?_ _) | (with_reducible refine Kd.C_drewN ?_ _) | (with_reducible refine Kd.C_drew ?_))); (case side4 => exact (Kd.R_reads' a5.out).2.1); rintro e w' ⟨rfl, ⟨nd, rfl⟩⟩))
           go_meet
           case rel => exact ⟨_, ((be != 0)), (by first | rfl | (simp; done) | (simp [*]; done)), H', ⟨by have := HJ5.out; have := HK2.out; first | omega | exact Nat.le_refl _⟩, ⟨by (with_reducible repeat (first | apply Kd.R_alloc | apply Kd.R_drewN | apply Kd.R_drew)); exact Kd.R_mono aa.out (fun _ hk => ⟨hk.1, hk.2.2.2⟩)⟩, ⟨by (with_reducible repeat (first | apply Kd.V_alloc | apply Kd.V_drewN | apply Kd.V_drew)); exact Kd.V_mono ad.out (fun _ hk => ⟨hk.1, ⟨hk.2.2.2.1, ⟨hk.2.2.2.2.1, hk.2.2.2.2.2⟩⟩⟩)⟩, ⟨by (with_reducible repeat (first | refine blk_drewN ?_ _ | refine blk_drew ?_ | refine blk_alloc ?_ _)); exact ac.out⟩, ⟨by (with_reducible repeat (first | refine blk_drewN ?_ _ | refine blk_drew ?_ | refine blk_alloc ?_ _)); exact ab.out⟩, ⟨by (with_reducible repeat (first | refine blk_drewN ?_ _ | refine blk_drew ?_ | refine blk_alloc ?_ _)); exact af.out⟩, ⟨by repeat (first | (with_reducible first | exact HB.out | apply below_alloc | apply pw_below_drewN | apply below_drew1 | refine below_set ?_ an.out | refine below_set ?_ ao.out | refine below_set ?_ au.out) | exact HB.out)⟩⟩
          ·replace c86 := Bool.eq_false_iff.mpr c86
           subst c86
           have H1 : (IIT.j2 k2 aA aE ax ar true ae ai aj ak) = some r := by rw [if_neg (show ¬ (false = true) by decide)] at H; exact H
           clear H
           have H := H1
           clear H1
           have H' := Aside0.mk H
           clear H
           obtain ⟨jL, jM, gZ⟩ := Kd.R_slice aV.out
           subst gZ
           obtain ⟨jN, jO, g0⟩ := Kd.R_slice a5.out
           subst g0
           go_wp2_with (first | (go_at_call 19; (with_reducible refine (graftwoodref05_Same.calls k2 _ _ bc _ _ br false _ ?side1 ?side2 ?side3 ?side4 A85.out).mono ?_); (case side1 => repeat (first | exact (Kd.R_reads' aV.out).2.2 | (with_reducible refine Kd.C_alloc ?_ _) | (with_reducible refine Kd.C_drewN ?_ _) | (with_reducible refine Kd.C_drew ?_))); (case side2 => exact (Kd.R_reads' aV.out).2.1); (case side3 => repeat (first | exact (Kd.R_reads' a5.out).2.2 | (with_reducible refine Kd.C_alloc ?_ _) | (with_reducible refine Kd.C_drewN ?_ _) | (with_reducible refine Kd.C_drew ?_))); (case side4 => exact (Kd.R_reads' a5.out).2.1); rintro e w' ⟨rfl, ⟨nd, rfl⟩⟩))
           go_meet
           case rel => exact ⟨_, (true), (by first | rfl | (simp; done) | (simp [*]; done)), H', ⟨by have := HJ5.out; have := HK2.out; first | omega | exact Nat.le_refl _⟩, ⟨by (with_reducible repeat (first | apply Kd.R_alloc | apply Kd.R_drewN | apply Kd.R_drew)); exact Kd.R_mono aa.out (fun _ hk => ⟨hk.1, hk.2.2.2⟩)⟩, ⟨by (with_reducible repeat (first | apply Kd.V_alloc | apply Kd.V_drewN | apply Kd.V_drew)); exact Kd.V_mono ad.out (fun _ hk => ⟨hk.1, ⟨hk.2.2.2.1, ⟨hk.2.2.2.2.1, hk.2.2.2.2.2⟩⟩⟩)⟩, ⟨by (with_reducible repeat (first | refine blk_drewN ?_ _ | refine blk_drew ?_ | refine blk_alloc ?_ _)); exact ac.out⟩, ⟨by (with_reducible repeat (first | refine blk_drewN ?_ _ | refine blk_drew ?_ | refine blk_alloc ?_ _)); exact ab.out⟩, ⟨by (with_reducible repeat (first | refine blk_drewN ?_ _ | refine blk_drew ?_ | refine blk_alloc ?_ _)); exact af.out⟩, ⟨by repeat (first | (with_reducible first | exact HB.out | apply below_alloc | apply pw_below_drewN | apply below_drew1 | refine below_set ?_ an.out | refine below_set ?_ ao.out | refine below_set ?_ au.out) | exact HB.out)⟩⟩
        case rest =>
         clear eT
         try clear p2
         try clear p4
         try clear q4
         try clear hx4
         try clear c6
         try clear p6
         try clear c7
         try clear c8
         try clear p43
         try clear q43
         try clear g1
         try clear p64
         try clear c66
         try clear ce
         try clear c67
         try clear c70
         try clear cf
         try clear c72
         try clear eF
         try clear c73
         try clear eG
         try clear c74
         try clear c79
         try clear c80
         try clear bG
         try clear cg
         try clear c82
         try clear ch
         try clear ci
         try clear c86
         try clear bg
         try clear bp
         try clear bA
         try clear bB
         try clear bC
         try clear p434
         try clear p435
         try clear p436
         try clear p437
         try clear q434
         try clear q435
         try clear q436
         try clear q437
         obtain ⟨kq, bD, rfl, HA, bO, aa, ad, ac, ab, af, HB⟩ := hcut
         cases kq with
         | zero => exact absurd HA.out (by simp [IIT.j2])
         | succ kj77 =>
          have H := HA.out
          clear HA
          simp only [IIT.j2] at H
          by_cases c91 : bD = true
          ·subst c91
           have H1 : (some false) = some r := by rw [if_pos rfl] at H; exact H
           clear H
           have H := H1
           clear H1
           exact absurd ((Option.some.inj H).trans hR_) (by decide)
          ·replace c91 := Bool.eq_false_iff.mpr c91
           subst c91
           have H1 : ((graftwoodref05_May.f kj77 ai aj).bind fun ca => (if ca = true then ((graftwoodref10_Id.f kj77 ae ai aj).bind fun bt445 => ((graftwoodref10_Place.f kj77 ae ai aj).bind fun bi => (if bi < 0 then (if aA = 0 then (if aE = 2 then ((graftwoodref10_Place.f kj77 ae ai aj).bind fun bn => (if bn ≥ 0 then (if aA = bt445.1 then (IIT.j3 kj77 ax ar bt445.1 (aE != 0) ak bt445.2) else (IIT.j3 kj77 ax ar bt445.1 true ak bt445.2)) else (IIT.j3 kj77 ax ar bt445.1 false ak bt445.2))) else (IIT.j3 kj77 ax ar bt445.1 true ak bt445.2)) else (IIT.j3 kj77 ax ar bt445.1 true ak bt445.2)) else ((graftwoodref10_Place.f kj77 ae ai aj).bind fun bo => (if bo ≥ 0 then (if aA = bt445.1 then (IIT.j3 kj77 ax ar bt445.1 (aE != 0) ak bt445.2) else (IIT.j3 kj77 ax ar bt445.1 true ak bt445.2)) else (IIT.j3 kj77 ax ar bt445.1 false ak bt445.2)))))) else (if aA = 0 then (if aE = 1 then (if ax = 0 then ((graftwoodlaw10_same.f kj77 ak ae).bind fun bH => (if bH = true then (if ar = 1 then ((graftwoodlaw10_awake.f kj77).bind fun bt => (some bt)) else (some false)) else (some false))) else (some false)) else (some false)) else (some false)))) = some r := by rw [if_neg (show ¬ (false = true) by decide)] at H; exact H
           clear H
           have H := H1
           clear H1
           replace H := Option.bind_eq_some_iff.mp H
           obtain ⟨ca, fG, H⟩ := H
           replace H : (if ca = true then ((graftwoodref10_Id.f kj77 ae ai aj).bind fun bt445 => ((graftwoodref10_Place.f kj77 ae ai aj).bind fun bi => (if bi < 0 then (if aA = 0 then (if aE = 2 then ((graftwoodref10_Place.f kj77 ae ai aj).bind fun bn => (if bn ≥ 0 then (if aA = bt445.1 then (IIT.j3 kj77 ax ar bt445.1 (aE != 0) ak bt445.2) else (IIT.j3 kj77 ax ar bt445.1 true ak bt445.2)) else (IIT.j3 kj77 ax ar bt445.1 false ak bt445.2))) else (IIT.j3 kj77 ax ar bt445.1 true ak bt445.2)) else (IIT.j3 kj77 ax ar bt445.1 true ak bt445.2)) else ((graftwoodref10_Place.f kj77 ae ai aj).bind fun bo => (if bo ≥ 0 then (if aA = bt445.1 then (IIT.j3 kj77 ax ar bt445.1 (aE != 0) ak bt445.2) else (IIT.j3 kj77 ax ar bt445.1 true ak bt445.2)) else (IIT.j3 kj77 ax ar bt445.1 false ak bt445.2)))))) else (if aA = 0 then (if aE = 1 then (if ax = 0 then ((graftwoodlaw10_same.f kj77 ak ae).bind fun bH => (if bH = true then (if ar = 1 then ((graftwoodlaw10_awake.f kj77).bind fun bt => (some bt)) else (some false)) else (some false))) else (some false)) else (some false)) else (some false))) = some r := H
           have A92 := Aside0.mk fG
           clear fG
           by_cases c93 : ca = true
           ·subst c93
            have H1 : ((graftwoodref10_Id.f kj77 ae ai aj).bind fun bt445 => ((graftwoodref10_Place.f kj77 ae ai aj).bind fun bi => (if bi < 0 then (if aA = 0 then (if aE = 2 then ((graftwoodref10_Place.f kj77 ae ai aj).bind fun bn => (if bn ≥ 0 then (if aA = bt445.1 then (IIT.j3 kj77 ax ar bt445.1 (aE != 0) ak bt445.2) else (IIT.j3 kj77 ax ar bt445.1 true ak bt445.2)) else (IIT.j3 kj77 ax ar bt445.1 false ak bt445.2))) else (IIT.j3 kj77 ax ar bt445.1 true ak bt445.2)) else (IIT.j3 kj77 ax ar bt445.1 true ak bt445.2)) else ((graftwoodref10_Place.f kj77 ae ai aj).bind fun bo => (if bo ≥ 0 then (if aA = bt445.1 then (IIT.j3 kj77 ax ar bt445.1 (aE != 0) ak bt445.2) else (IIT.j3 kj77 ax ar bt445.1 true ak bt445.2)) else (IIT.j3 kj77 ax ar bt445.1 false ak bt445.2)))))) = some r := by rw [if_pos rfl] at H; exact H
            clear H
            have H := H1
            clear H1
            replace H := Option.bind_eq_some_iff.mp H
            obtain ⟨⟨a4, aN⟩, fH, H⟩ := H
            replace H : ((graftwoodref10_Place.f kj77 ae ai aj).bind fun bi => (if bi < 0 then (if aA = 0 then (if aE = 2 then ((graftwoodref10_Place.f kj77 ae ai aj).bind fun bn => (if bn ≥ 0 then (if aA = a4 then (IIT.j3 kj77 ax ar a4 (aE != 0) ak aN) else (IIT.j3 kj77 ax ar a4 true ak aN)) else (IIT.j3 kj77 ax ar a4 false ak aN))) else (IIT.j3 kj77 ax ar a4 true ak aN)) else (IIT.j3 kj77 ax ar a4 true ak aN)) else ((graftwoodref10_Place.f kj77 ae ai aj).bind fun bo => (if bo ≥ 0 then (if aA = a4 then (IIT.j3 kj77 ax ar a4 (aE != 0) ak aN) else (IIT.j3 kj77 ax ar a4 true ak aN)) else (IIT.j3 kj77 ax ar a4 false ak aN))))) = some r := H
            have A94 := Aside0.mk fH
            clear fH
            have eU := Aside0.mk H
            clear H
            have jp := aJ.out
            have jq := aH.out
            have jr := aD.out
            have js := aU.out
            have es : wc.cell? ⟨ag, 0, none⟩ = some (.string ai) := (blk_cell ab.out 0).trans rfl
            have et : wc.cell? ⟨ag, 1, none⟩ = some (.string aj) := (blk_cell ab.out 1).trans rfl
            have eu := blk_frozen ab.out 0
            have ev := blk_frozen ab.out 1
            go_upto_region 24 with (first | ((with_reducible refine gate_callee (f := 12) rfl ?_); refine goesL_ (some 144) rfl rfl Tryd.func12 (by kernel_rfl) rfl #[.agg #[.string ai, .string aj]] rfl (by (try simp only [List.map_toArray, List.map_cons, List.map_nil]); first | done | rfl | (simp only [List.length_drop, List.length_take]; rfl)) ?_; (with_reducible refine (graftwoodref05_May.calls kj77 ai aj true _ A92.out).mono ?_); rintro e w99 ⟨rfl, hb⟩; refine ⟨_, rfl, ?_⟩; have n0_ := Aside0.mk (Kd.R_below (by (with_reducible repeat (first | apply Kd.R_alloc | apply Kd.R_drewN | apply Kd.R_drew)); exact aa.out) hb); have n1_ := Aside0.mk (Kd.V_below (by (with_reducible repeat (first | apply Kd.V_alloc | apply Kd.V_drewN | apply Kd.V_drew)); exact ad.out) hb); have n2_ := Aside0.mk (blk_below (g := ah) (o := .cells #[.slice ap ae.length am] 24 (0, 0)) (by (with_reducible repeat (first | refine blk_drewN ?_ _ | refine blk_drew ?_ | refine blk_alloc ?_ _)); exact ac.out) hb); have n3_ := Aside0.mk (blk_below (g := ag) (o := .cells #[.string ai, .string aj] 34 (0, 0)) (by (with_reducible repeat (first | refine blk_drewN ?_ _ | refine blk_drew ?_ | refine blk_alloc ?_ _)); exact ab.out) hb); have n4_ := Aside0.mk (blk_below (g := al) (o := .cells #[.slice aY ak.length aZ] 24 (0, 0)) (by (with_reducible repeat (first | refine blk_drewN ?_ _ | refine blk_drew ?_ | refine blk_alloc ?_ _)); exact af.out) hb); have n5_ := Aside0.mk (below_step (by repeat (first | (with_reducible first | exact HB.out | apply below_alloc | apply pw_below_drewN | apply below_drew1 | refine below_set ?_ an.out | refine below_set ?_ ao.out | refine below_set ?_ au.out) | exact HB.out)) hb); clear aa; clear ad; clear ac; clear ab; clear af; clear HB; have aa := n0_; have ad := n1_; have ac := n2_; have ab := n3_; have af := n4_; have HB := n5_; clear n0_ n1_ n2_ n3_ n4_ n5_; (try clear hb); (try clear hb2); (try clear hk); (try clear hi); have g2 := aK.out; have g3 := aR.out; have cj : w99.cell? ⟨ah, 0, none⟩ = some (.slice ap ae.length am) := (blk_cell ac.out 0).trans rfl; have ck := blk_frozen ac.out 0; have cl : w99.cell? ⟨ag, 0, none⟩ = some (.string ai) := (blk_cell ab.out 0).trans rfl; have cm : w99.cell? ⟨ag, 1, none⟩ = some (.string aj) := (blk_cell ab.out 1).trans rfl; have cn := blk_frozen ab.out 0; have co := blk_frozen ab.out 1) | ((with_reducible refine gate_callee (f := 15) rfl ?_); refine goesL_ (some 171) rfl rfl Tryd.func15 (by kernel_rfl) rfl #[.agg #[.slice ap ae.length am], .agg #[.string ai, .string aj]] rfl (by (try simp only [List.map_toArray, List.map_cons, List.map_nil]); first | done | rfl | (simp only [List.length_drop, List.length_take]; rfl)) ?_; (with_reducible refine (graftwoodref10_Id.calls kj77 (fun k_ => some k_ = (.slice ap ae.length am : Value).ownBlock) _ _ ae ai aj a4 aN _ ?side1 A94.out).mono ?_); (case side1 => exact Kd.R_V (Kd.R_tight rfl (Kd.R_types (Kd.R_types (aa.out) ac.out (by decide)) af.out (by decide)))); rintro e jP ⟨jQ, rfl, ho0, hb⟩; refine ⟨_, rfl, ?_⟩; have n0_ := Aside0.mk (Kd.R_below (by (with_reducible repeat (first | apply Kd.R_alloc | apply Kd.R_drewN | apply Kd.R_drew)); exact aa.out) hb); have n1_ := Aside0.mk (Kd.V_below (by (with_reducible repeat (first | apply Kd.V_alloc | apply Kd.V_drewN | apply Kd.V_drew)); exact ad.out) hb); have n2_ := Aside0.mk (Kd.V_lower (Kd.V_mono (ok' := fun k_ => (P2_ k_ ∨ w.heap.size ≤ k_) ∧ k_ ≠ ah ∧ k_ ≠ ag ∧ k_ ≠ al) ho0 (fun k_ hk_ => ⟨Or.elim hk_ (fun hs_ => (.inr (((Kd.R_types (Kd.R_types (aa.out) ac.out (by decide)) af.out (by decide)).1 k_ hs_.symm).1.1.1))) (fun hn_ => (.inr (Nat.le_trans (below_size (by repeat (first | (with_reducible first | exact HB.out | apply below_alloc | apply pw_below_drewN | apply below_drew1 | refine below_set ?_ an.out | refine below_set ?_ ao.out | refine below_set ?_ au.out) | exact HB.out))) hn_))), Or.elim hk_ (fun hs_ => ((Kd.R_types (Kd.R_types (aa.out) ac.out (by decide)) af.out (by decide)).1 k_ hs_.symm).1.2) (fun hn_ => (Kd.freshB (g := ah) (o := .cells #[.slice ap ae.length am] 24 (0, 0)) (by (with_reducible repeat (first | refine blk_drewN ?_ _ | refine blk_drew ?_ | refine blk_alloc ?_ _)); exact ac.out) k_ hn_)), Or.elim hk_ (fun hs_ => ((Kd.R_types (Kd.R_types (aa.out) ac.out (by decide)) af.out (by decide)).1 k_ hs_.symm).1.1.2) (fun hn_ => (Kd.freshB (g := ag) (o := .cells #[.string ai, .string aj] 34 (0, 0)) (by (with_reducible repeat (first | refine blk_drewN ?_ _ | refine blk_drew ?_ | refine blk_alloc ?_ _)); exact ab.out) k_ hn_)), Or.elim hk_ (fun hs_ => ((Kd.R_types (Kd.R_types (aa.out) ac.out (by decide)) af.out (by decide)).1 k_ hs_.symm).2) (fun hn_ => (Kd.freshB (g := al) (o := .cells #[.slice aY ak.length aZ] 24 (0, 0)) (by (with_reducible repeat (first | refine blk_drewN ?_ _ | refine blk_drew ?_ | refine blk_alloc ?_ _)); exact af.out) k_ hn_))⟩)) (below_size (by repeat (first | (with_reducible first | exact HB.out | apply below_alloc | apply pw_below_drewN | apply below_drew1 | refine below_set ?_ an.out | refine below_set ?_ ao.out | refine below_set ?_ au.out) | exact HB.out)))); have n3_ := Aside0.mk (blk_below (g := ah) (o := .cells #[.slice ap ae.length am] 24 (0, 0)) (by (with_reducible repeat (first | refine blk_drewN ?_ _ | refine blk_drew ?_ | refine blk_alloc ?_ _)); exact ac.out) hb); have n4_ := Aside0.mk (blk_below (g := ag) (o := .cells #[.string ai, .string aj] 34 (0, 0)) (by (with_reducible repeat (first | refine blk_drewN ?_ _ | refine blk_drew ?_ | refine blk_alloc ?_ _)); exact ab.out) hb); have n5_ := Aside0.mk (blk_below (g := al) (o := .cells #[.slice aY ak.length aZ] 24 (0, 0)) (by (with_reducible repeat (first | refine blk_drewN ?_ _ | refine blk_drew ?_ | refine blk_alloc ?_ _)); exact af.out) hb); have n6_ := Aside0.mk (below_step (by repeat (first | (with_reducible first | exact HB.out | apply below_alloc | apply pw_below_drewN | apply below_drew1 | refine below_set ?_ an.out | refine below_set ?_ ao.out | refine below_set ?_ au.out) | exact HB.out)) hb); clear aa; clear ad; clear ac; clear ab; clear af; clear HB; have aa := n0_; have ad := n1_; have ay := n2_; have ac := n3_; have ab := n4_; have af := n5_; have HB := n6_; clear n0_ n1_ n2_ n3_ n4_ n5_ n6_; (try clear hb); (try clear hb2); (try clear hk); (try clear hi); (try clear ho0)) | ((with_reducible refine gate_dst (N := 18) rfl ?_); (try (refine gate_guard (by rfl) ?_; dsimp only)); refine box_event ?hg (N := 18) ?hd (cs := #[.slice none 0 0]) (t := 24) ?hr ?_; (case hd => rfl); (case hg => rfl); (case hr => first | (go_simp; done) | (go_simp; rfl)); intro aI hg fI hbox hb; have n0_ := Aside0.mk (Kd.R_below (by (with_reducible repeat (first | apply Kd.R_alloc | apply Kd.R_drewN | apply Kd.R_drew)); exact aa.out) hb); have n1_ := Aside0.mk (Kd.V_below (Kd.V_elderB (by (with_reducible repeat (first | apply Kd.V_alloc | apply Kd.V_drewN | apply Kd.V_drew)); exact ad.out) aI (Nat.le_of_eq hg.symm)) hb); have n2_ := Aside0.mk (Kd.V_below (Kd.V_elderB (by (with_reducible repeat (first | apply Kd.V_alloc | apply Kd.V_drewN | apply Kd.V_drew)); exact ay.out) aI (Nat.le_of_eq hg.symm)) hb); have n3_ := Aside0.mk (blk_below (g := ah) (o := .cells #[.slice ap ae.length am] 24 (0, 0)) (by (with_reducible repeat (first | refine blk_drewN ?_ _ | refine blk_drew ?_ | refine blk_alloc ?_ _)); exact ac.out) hb); have n4_ := Aside0.mk (blk_below (g := ag) (o := .cells #[.string ai, .string aj] 34 (0, 0)) (by (with_reducible repeat (first | refine blk_drewN ?_ _ | refine blk_drew ?_ | refine blk_alloc ?_ _)); exact ab.out) hb); have n5_ := Aside0.mk (blk_below (g := al) (o := .cells #[.slice aY ak.length aZ] 24 (0, 0)) (by (with_reducible repeat (first | refine blk_drewN ?_ _ | refine blk_drew ?_ | refine blk_alloc ?_ _)); exact af.out) hb); have n6_ := Aside0.mk (below_step (by repeat (first | (with_reducible first | exact HB.out | apply below_alloc | apply pw_below_drewN | apply below_drew1 | refine below_set ?_ an.out | refine below_set ?_ ao.out | refine below_set ?_ au.out) | exact HB.out)) hb); have n7_ := Aside0.mk (hbox); have n8_ := Aside0.mk ((by rw [hg]; exact (below_size (by repeat (first | (with_reducible first | exact HB.out | apply below_alloc | apply pw_below_drewN | apply below_drew1 | refine below_set ?_ an.out | refine below_set ?_ ao.out | refine below_set ?_ au.out) | exact HB.out))) : w.heap.size ≤ aI)); have n9_ := Aside0.mk ((by rw [hg]; exact (below_size (by repeat (first | (with_reducible first | exact HB.out | apply below_alloc | apply pw_below_drewN | apply below_drew1 | refine below_set ?_ an.out | refine below_set ?_ ao.out | refine below_set ?_ au.out) | exact HB.out))) : w.heap.size ≤ aI)); have n10_ := Aside0.mk ((by rw [hg]; exact Nat.ne_of_lt (blk_lt (g := ah) (o := .cells #[.slice ap ae.length am] 24 (0, 0)) (by (with_reducible repeat (first | refine blk_drewN ?_ _ | refine blk_drew ?_ | refine blk_alloc ?_ _)); exact ac.out)) : ah ≠ aI)); have n11_ := Aside0.mk ((by rw [hg]; exact Nat.ne_of_gt (blk_lt (g := ah) (o := .cells #[.slice ap ae.length am] 24 (0, 0)) (by (with_reducible repeat (first | refine blk_drewN ?_ _ | refine blk_drew ?_ | refine blk_alloc ?_ _)); exact ac.out)) : aI ≠ ah)); have n12_ := Aside0.mk ((by rw [hg]; exact Nat.ne_of_lt (blk_lt (g := ag) (o := .cells #[.string ai, .string aj] 34 (0, 0)) (by (with_reducible repeat (first | refine blk_drewN ?_ _ | refine blk_drew ?_ | refine blk_alloc ?_ _)); exact ab.out)) : ag ≠ aI)); have n13_ := Aside0.mk ((by rw [hg]; exact Nat.ne_of_gt (blk_lt (g := ag) (o := .cells #[.string ai, .string aj] 34 (0, 0)) (by (with_reducible repeat (first | refine blk_drewN ?_ _ | refine blk_drew ?_ | refine blk_alloc ?_ _)); exact ab.out)) : aI ≠ ag)); have n14_ := Aside0.mk ((by rw [hg]; exact Nat.ne_of_lt (blk_lt (g := al) (o := .cells #[.slice aY ak.length aZ] 24 (0, 0)) (by (with_reducible repeat (first | refine blk_drewN ?_ _ | refine blk_drew ?_ | refine blk_alloc ?_ _)); exact af.out)) : al ≠ aI)); have n15_ := Aside0.mk ((by rw [hg]; exact Nat.ne_of_gt (blk_lt (g := al) (o := .cells #[.slice aY ak.length aZ] 24 (0, 0)) (by (with_reducible repeat (first | refine blk_drewN ?_ _ | refine blk_drew ?_ | refine blk_alloc ?_ _)); exact af.out)) : aI ≠ al)); clear aa; clear ad; clear ay; clear ac; clear ab; clear af; clear HB; have aa := n0_; have ad := n1_; have ay := n2_; have ac := n3_; have ab := n4_; have af := n5_; have HB := n6_; have av := n7_; have jt := n8_; have a8 := n9_; have a6 := n10_; have ba := n11_; have a7 := n12_; have bb := n13_; have bv := n14_; have bL := n15_; clear n0_ n1_ n2_ n3_ n4_ n5_ n6_ n7_ n8_ n9_ n10_ n11_ n12_ n13_ n14_ n15_; clear hb hbox hg; obtain ⟨a9, a_, fJ⟩ := Kd.V_slice ay.out; subst fJ; have g4 := ba.out; have g5 := a6.out; have g6 := bb.out; have g7 := a7.out; have g8 := bL.out; have g9 := bv.out; have cp : fI.cell? ⟨aI, 0, none⟩ = some (.slice none 0 0) := (blk_cell av.out 0).trans rfl; have cq := blk_frozen av.out 0) | ((with_reducible refine gate_store (t := 24) (p := 18) rfl ?_); refine store_event (t := 24) (p := 18) (v := ?vo_w110) (w1 := (fI.setCell ⟨aI, 0, none⟩ (.slice a9 aN.length a_))) ?hg ?ho ?hn ?hr ?_; (case ho => rfl); (case hg => rfl); (case hn => rfl); (case hr => first | (go_simp; done) | (go_simp; rfl)); intro bd hw; have n0_ : Aside0 (Kd.R k34 34 bd w.heap.size (fun k_ => (w.heap.size ≤ k_) ∧ k_ ≠ ag) (.slice ap ae.length am) ae) := ⟨(by rw [hw]; exact (by (with_reducible repeat (first | apply Kd.R_alloc | apply Kd.R_drewN | apply Kd.R_drew)); exact Kd.R_mono (Kd.R_far (p := ⟨aI, 0, none⟩) (Kd.R_types aa.out av.out (by decide)) (fun _ hk => hk.2) (.slice a9 aN.length a_)) (fun _ hk => ⟨hk.1.1, hk.1.2⟩)))⟩; have n1_ : Aside0 (Kd.V k34 34 bd w.heap.size (fun k_ => (P2_ k_ ∨ w.heap.size ≤ k_) ∧ k_ ≠ ah ∧ k_ ≠ ag ∧ k_ ≠ al ∧ k_ ≠ aI) (.slice aY ak.length aZ) ak) := ⟨(by rw [hw]; exact (by (with_reducible repeat (first | apply Kd.V_alloc | apply Kd.V_drewN | apply Kd.V_drew)); exact Kd.V_mono (Kd.V_far (p := ⟨aI, 0, none⟩) (Kd.V_mono ad.out (fun k_ hk => (⟨hk, hk.2⟩ : _ ∧ k_ ≠ aI))) (fun _ hk => hk.2) (.slice a9 aN.length a_)) (fun _ hk => ⟨hk.1.1.1, ⟨hk.1.1.2.1, ⟨hk.1.1.2.2.1, ⟨hk.1.1.2.2.2, hk.1.2⟩⟩⟩⟩)))⟩; have n2_ : Aside0 (Kd.V k34 34 bd w.heap.size (fun k_ => (P2_ k_ ∨ w.heap.size ≤ k_) ∧ k_ ≠ ah ∧ k_ ≠ ag ∧ k_ ≠ al ∧ k_ ≠ aI) (.slice a9 aN.length a_) aN) := ⟨(by rw [hw]; exact (by (with_reducible repeat (first | apply Kd.V_alloc | apply Kd.V_drewN | apply Kd.V_drew)); exact Kd.V_mono (Kd.V_far (p := ⟨aI, 0, none⟩) (Kd.V_mono ay.out (fun k_ hk => (⟨hk, hk.2⟩ : _ ∧ k_ ≠ aI))) (fun _ hk => hk.2) (.slice a9 aN.length a_)) (fun _ hk => ⟨hk.1.1.1, ⟨hk.1.1.2.1, ⟨hk.1.1.2.2.1, ⟨hk.1.1.2.2.2, hk.1.2⟩⟩⟩⟩)))⟩; have n3_ : Aside0 (bd.heap[ah]? = some (.cells #[.slice ap ae.length am] 24 (0, 0))) := ⟨(by rw [hw]; exact (by (with_reducible repeat (first | refine blk_drewN ?_ _ | refine blk_drew ?_ | refine blk_alloc ?_ _)); refine blk_far ?_ a6.out _; (with_reducible repeat (first | refine blk_drewN ?_ _ | refine blk_drew ?_ | refine blk_alloc ?_ _)); exact ac.out))⟩; have n4_ : Aside0 (bd.heap[ag]? = some (.cells #[.string ai, .string aj] 34 (0, 0))) := ⟨(by rw [hw]; exact (by (with_reducible repeat (first | refine blk_drewN ?_ _ | refine blk_drew ?_ | refine blk_alloc ?_ _)); refine blk_far ?_ a7.out _; (with_reducible repeat (first | refine blk_drewN ?_ _ | refine blk_drew ?_ | refine blk_alloc ?_ _)); exact ab.out))⟩; have n5_ : Aside0 (bd.heap[al]? = some (.cells #[.slice aY ak.length aZ] 24 (0, 0))) := ⟨(by rw [hw]; exact (by (with_reducible repeat (first | refine blk_drewN ?_ _ | refine blk_drew ?_ | refine blk_alloc ?_ _)); refine blk_far ?_ bv.out _; (with_reducible repeat (first | refine blk_drewN ?_ _ | refine blk_drew ?_ | refine blk_alloc ?_ _)); exact af.out))⟩; have n6_ : Aside0 (bd.heap[aI]? = some (.cells #[.slice a9 aN.length a_] 24 (0, 0))) := ⟨(by rw [hw]; exact (by (with_reducible repeat (first | refine blk_drewN ?_ _ | refine blk_drew ?_ | refine blk_alloc ?_ _)); refine blk_put (cs := #[.slice none 0 0]) ?_ 0 _ rfl; (with_reducible repeat (first | refine blk_drewN ?_ _ | refine blk_drew ?_ | refine blk_alloc ?_ _)); exact av.out))⟩; have n7_ : Aside0 (Below w.heap.size w bd) := ⟨(by rw [hw]; exact (by repeat (first | (with_reducible first | exact HB.out | apply below_alloc | apply pw_below_drewN | apply below_drew1 | refine below_set ?_ an.out | refine below_set ?_ ao.out | refine below_set ?_ au.out | refine below_set ?_ a8.out) | exact HB.out)))⟩; clear hw; clear aa; clear ad; clear ay; clear ac; clear ab; clear af; clear av; clear HB; have aa := n0_; have ad := n1_; have ay := n2_; have ac := n3_; have ab := n4_; have af := n5_; have av := n6_; have HB := n7_; clear n0_ n1_ n2_ n3_ n4_ n5_ n6_ n7_))
            (try simp only [Act.put, List.setIfInBounds_toArray, List.set_cons_zero, List.set_cons_succ])
            go_cut [200] (fun g_ wc => ∃ (kq : Nat) (bE : Bool), g_ = .bool bE ∧ Aside0 (IIT.j3 kq ax ar a4 bE ak aN = some r) ∧ Aside0 (kq ≤ kj77) ∧ Aside0 (Kd.R k34 34 wc w.heap.size (fun k_ => (w.heap.size ≤ k_) ∧ k_ ≠ ag) (.slice ap ae.length am) ae) ∧ Aside0 (Kd.V k34 34 wc w.heap.size (fun k_ => (P2_ k_ ∨ w.heap.size ≤ k_) ∧ k_ ≠ ah ∧ k_ ≠ ag ∧ k_ ≠ al ∧ k_ ≠ aI) (.slice aY ak.length aZ) ak) ∧ Aside0 (Kd.V k34 34 wc w.heap.size (fun k_ => (P2_ k_ ∨ w.heap.size ≤ k_) ∧ k_ ≠ ah ∧ k_ ≠ ag ∧ k_ ≠ al ∧ k_ ≠ aI) (.slice a9 aN.length a_) aN) ∧ Aside0 (wc.heap[ah]? = some (.cells #[(.slice ap ae.length am)] 24 (0, 0))) ∧ Aside0 (wc.heap[ag]? = some (.cells #[.string ai, .string aj] 34 (0, 0))) ∧ Aside0 (wc.heap[al]? = some (.cells #[(.slice aY ak.length aZ)] 24 (0, 0))) ∧ Aside0 (wc.heap[aI]? = some (.cells #[(.slice a9 aN.length a_)] 24 (0, 0))) ∧ Aside0 (Below w.heap.size w wc))
            case first =>
             have H := eU.out
             clear eU
             replace H := Option.bind_eq_some_iff.mp H
             obtain ⟨bi, eH, H⟩ := H
             replace H : (if bi < 0 then (if aA = 0 then (if aE = 2 then ((graftwoodref10_Place.f kj77 ae ai aj).bind fun bn => (if bn ≥ 0 then (if aA = a4 then (IIT.j3 kj77 ax ar a4 (aE != 0) ak aN) else (IIT.j3 kj77 ax ar a4 true ak aN)) else (IIT.j3 kj77 ax ar a4 false ak aN))) else (IIT.j3 kj77 ax ar a4 true ak aN)) else (IIT.j3 kj77 ax ar a4 true ak aN)) else ((graftwoodref10_Place.f kj77 ae ai aj).bind fun bo => (if bo ≥ 0 then (if aA = a4 then (IIT.j3 kj77 ax ar a4 (aE != 0) ak aN) else (IIT.j3 kj77 ax ar a4 true ak aN)) else (IIT.j3 kj77 ax ar a4 false ak aN)))) = some r := H
             have bP := Aside0.mk eH
             clear eH
             by_cases bV : bi < 0
             ·as_aux_lemma =>
              rw [if_pos bV] at H
              have bw : decide (bi < 0) = true := decide_eq_true bV
              clear bV
              (first | rw [bw] | (simp only [i64_w, i32_w]; rw [bw]) | skip)
              by_cases bQ : aA = 0
              ·rw [if_pos bQ] at H
               have cr : (aA == 0) = true := beq_iff_eq.mpr bQ
               have ct : (aA != 0) = false := bne_eq_false_iff_eq.mpr bQ
               clear bQ
               by_cases bR : aE = 2
               ·rw [if_pos bR] at H
                have cu : (aE == 2) = true := beq_iff_eq.mpr bR
                have cv : (aE != 2) = false := bne_eq_false_iff_eq.mpr bR
                clear bR
                replace H := Option.bind_eq_some_iff.mp H
                obtain ⟨bn, eI, H⟩ := H
                replace H : (if bn ≥ 0 then (if aA = a4 then (IIT.j3 kj77 ax ar a4 (aE != 0) ak aN) else (IIT.j3 kj77 ax ar a4 true ak aN)) else (IIT.j3 kj77 ax ar a4 false ak aN)) = some r := H
                have eV := Aside0.mk eI
                clear eI
                by_cases bW : bn ≥ 0
                ·rw [if_pos bW] at H
                 have cw : decide (0 ≤ bn) = true := decide_eq_true bW
                 clear bW
                 by_cases bS : aA = a4
                 ·rw [if_pos bS] at H
                  have cx : (aA == a4) = true := beq_iff_eq.mpr bS
                  have cy : (aA != a4) = false := bne_eq_false_iff_eq.mpr bS
                  clear bS
                  have H' := Aside0.mk H
                  clear H
                  have ha := aH.out
                  have hc := aJ.out
                  have he := aK.out
                  have hf := aR.out
                  have hh := a6.out
                  have hj := ba.out
                  have cz : bd.cell? ⟨ah, 0, none⟩ = some (.slice ap ae.length am) := (blk_cell ac.out 0).trans rfl
                  have cA := blk_frozen ac.out 0
                  have hl := aD.out
                  have hm := aU.out
                  have hp := a7.out
                  have hq := bb.out
                  have cB : bd.cell? ⟨ag, 0, none⟩ = some (.string ai) := (blk_cell ab.out 0).trans rfl
                  have cC : bd.cell? ⟨ag, 1, none⟩ = some (.string aj) := (blk_cell ab.out 1).trans rfl
                  have cD := blk_frozen ab.out 0
                  have cE := blk_frozen ab.out 1
                  go_wp2_with (first | ((with_reducible refine gate_callee (f := 23) rfl ?_); refine goesL_ (some 176) rfl rfl Tryd.func23 (by kernel_rfl) rfl #[.agg #[.slice ap ae.length am], .agg #[.string ai, .string aj]] rfl (by (try simp only [List.map_toArray, List.map_cons, List.map_nil]); first | done | rfl | (simp only [List.length_drop, List.length_take]; rfl)) ?_; (with_reducible refine (graftwoodref10_Place.calls kj77 _ _ ae ai aj bi _ ?side1 ?side2 bP.out).mono ?_); (case side1 => repeat (first | exact (Kd.R_reads' aa.out).2.2 | (with_reducible refine Kd.C_alloc ?_ _) | (with_reducible refine Kd.C_drewN ?_ _) | (with_reducible refine Kd.C_drew ?_))); (case side2 => exact (Kd.R_reads' aa.out).2.1); rintro e eW ⟨rfl, hb⟩; refine ⟨_, rfl, ?_⟩; have n0_ := Aside0.mk (Kd.R_below (by (with_reducible repeat (first | apply Kd.R_alloc | apply Kd.R_drewN | apply Kd.R_drew)); exact aa.out) hb); have n1_ := Aside0.mk (Kd.V_below (by (with_reducible repeat (first | apply Kd.V_alloc | apply Kd.V_drewN | apply Kd.V_drew)); exact ad.out) hb); have n2_ := Aside0.mk (Kd.V_below (by (with_reducible repeat (first | apply Kd.V_alloc | apply Kd.V_drewN | apply Kd.V_drew)); exact ay.out) hb); have n3_ := Aside0.mk (blk_below (g := ah) (o := .cells #[.slice ap ae.length am] 24 (0, 0)) (by (with_reducible repeat (first | refine blk_drewN ?_ _ | refine blk_drew ?_ | refine blk_alloc ?_ _)); exact ac.out) hb); have n4_ := Aside0.mk (blk_below (g := ag) (o := .cells #[.string ai, .string aj] 34 (0, 0)) (by (with_reducible repeat (first | refine blk_drewN ?_ _ | refine blk_drew ?_ | refine blk_alloc ?_ _)); exact ab.out) hb); have n5_ := Aside0.mk (blk_below (g := al) (o := .cells #[.slice aY ak.length aZ] 24 (0, 0)) (by (with_reducible repeat (first | refine blk_drewN ?_ _ | refine blk_drew ?_ | refine blk_alloc ?_ _)); exact af.out) hb); have n6_ := Aside0.mk (blk_below (g := aI) (o := .cells #[.slice a9 aN.length a_] 24 (0, 0)) (by (with_reducible repeat (first | refine blk_drewN ?_ _ | refine blk_drew ?_ | refine blk_alloc ?_ _)); exact av.out) hb); have n7_ := Aside0.mk (below_step (by repeat (first | (with_reducible first | exact HB.out | apply below_alloc | apply pw_below_drewN | apply below_drew1 | refine below_set ?_ an.out | refine below_set ?_ ao.out | refine below_set ?_ au.out | refine below_set ?_ a8.out) | exact HB.out)) hb); clear aa; clear ad; clear ay; clear ac; clear ab; clear af; clear av; clear HB; have aa := n0_; have ad := n1_; have ay := n2_; have ac := n3_; have ab := n4_; have af := n5_; have av := n6_; have HB := n7_; clear n0_ n1_ n2_ n3_ n4_ n5_ n6_ n7_; (try clear hb); (try clear hb2); (try clear hk); (try clear hi); have cF : eW.cell? ⟨ah, 0, none⟩ = some (.slice ap ae.length am) := (blk_cell ac.out 0).trans rfl; have cG := blk_frozen ac.out 0; have cH : eW.cell? ⟨ag, 0, none⟩ = some (.string ai) := (blk_cell ab.out 0).trans rfl; have cI : eW.cell? ⟨ag, 1, none⟩ = some (.string aj) := (blk_cell ab.out 1).trans rfl; have cJ := blk_frozen ab.out 0; have cK := blk_frozen ab.out 1) | (go_at_call 23; (with_reducible refine (graftwoodref10_Place.calls kj77 _ _ ae ai aj bn _ ?side1 ?side2 eV.out).mono ?_); (case side1 => repeat (first | exact (Kd.R_reads' aa.out).2.2 | (with_reducible refine Kd.C_alloc ?_ _) | (with_reducible refine Kd.C_drewN ?_ _) | (with_reducible refine Kd.C_drew ?_))); (case side2 => exact (Kd.R_reads' aa.out).2.1); rintro e jR ⟨rfl, hb⟩; have n0_ := Aside0.mk (Kd.R_below (by (with_reducible repeat (first | apply Kd.R_alloc | apply Kd.R_drewN | apply Kd.R_drew)); exact aa.out) hb); have n1_ := Aside0.mk (Kd.V_below (by (with_reducible repeat (first | apply Kd.V_alloc | apply Kd.V_drewN | apply Kd.V_drew)); exact ad.out) hb); have n2_ := Aside0.mk (Kd.V_below (by (with_reducible repeat (first | apply Kd.V_alloc | apply Kd.V_drewN | apply Kd.V_drew)); exact ay.out) hb); have n3_ := Aside0.mk (blk_below (g := ah) (o := .cells #[.slice ap ae.length am] 24 (0, 0)) (by (with_reducible repeat (first | refine blk_drewN ?_ _ | refine blk_drew ?_ | refine blk_alloc ?_ _)); exact ac.out) hb); have n4_ := Aside0.mk (blk_below (g := ag) (o := .cells #[.string ai, .string aj] 34 (0, 0)) (by (with_reducible repeat (first | refine blk_drewN ?_ _ | refine blk_drew ?_ | refine blk_alloc ?_ _)); exact ab.out) hb); have n5_ := Aside0.mk (blk_below (g := al) (o := .cells #[.slice aY ak.length aZ] 24 (0, 0)) (by (with_reducible repeat (first | refine blk_drewN ?_ _ | refine blk_drew ?_ | refine blk_alloc ?_ _)); exact af.out) hb); have n6_ := Aside0.mk (blk_below (g := aI) (o := .cells #[.slice a9 aN.length a_] 24 (0, 0)) (by (with_reducible repeat (first | refine blk_drewN ?_ _ | refine blk_drew ?_ | refine blk_alloc ?_ _)); exact av.out) hb); have n7_ := Aside0.mk (below_step (by repeat (first | (with_reducible first | exact HB.out | apply below_alloc | apply pw_below_drewN | apply below_drew1 | refine below_set ?_ an.out | refine below_set ?_ ao.out | refine below_set ?_ au.out | refine below_set ?_ a8.out) | exact HB.out)) hb); clear aa; clear ad; clear ay; clear ac; clear ab; clear af; clear av; clear HB; have aa := n0_; have ad := n1_; have ay := n2_; have ac := n3_; have ab := n4_; have af := n5_; have av := n6_; have HB := n7_; clear n0_ n1_ n2_ n3_ n4_ n5_ n6_ n7_; (try clear hb); (try clear hb2); (try clear hk); (try clear hi)))
                  go_meet
                  case rel => exact ⟨_, ((aE != 0)), (by first | rfl | (simp; done) | (simp [*]; done)), H', ⟨by have := HJ5.out; have := HK2.out; have := bO.out; first | omega | exact Nat.le_refl _⟩, ⟨by (with_reducible repeat (first | apply Kd.R_alloc | apply Kd.R_drewN | apply Kd.R_drew)); exact aa.out⟩, ⟨by (with_reducible repeat (first | apply Kd.V_alloc | apply Kd.V_drewN | apply Kd.V_drew)); exact ad.out⟩, ⟨by (with_reducible repeat (first | apply Kd.V_alloc | apply Kd.V_drewN | apply Kd.V_drew)); exact ay.out⟩, ⟨by (with_reducible repeat (first | refine blk_drewN ?_ _ | refine blk_drew ?_ | refine blk_alloc ?_ _)); exact ac.out⟩, ⟨by (with_reducible repeat (first | refine blk_drewN ?_ _ | refine blk_drew ?_ | refine blk_alloc ?_ _)); exact ab.out⟩, ⟨by (with_reducible repeat (first | refine blk_drewN ?_ _ | refine blk_drew ?_ | refine blk_alloc ?_ _)); exact af.out⟩, ⟨by (with_reducible repeat (first | refine blk_drewN ?_ _ | refine blk_drew ?_ | refine blk_alloc ?_ _)); exact av.out⟩, ⟨by repeat (first | (with_reducible first | exact HB.out | apply below_alloc | apply pw_below_drewN | apply below_drew1 | refine below_set ?_ an.out | refine below_set ?_ ao.out | refine below_set ?_ au.out | refine below_set ?_ a8.out) | exact HB.out)⟩⟩
                 ·rw [if_neg bS] at H
                  have cx : (aA == a4) = false := beq_eq_false_iff_ne.mpr bS
                  have cy : (aA != a4) = true := bne_iff_ne.mpr bS
                  have H' := Aside0.mk H
                  clear H
                  have hs := aH.out
                  have ht := aJ.out
                  have hu := aK.out
                  have hv := aR.out
                  have hx := a6.out
                  have hy := ba.out
                  have cL : bd.cell? ⟨ah, 0, none⟩ = some (.slice ap ae.length am) := (blk_cell ac.out 0).trans rfl
                  have cM := blk_frozen ac.out 0
                  have hz := aD.out
                  have hA := aU.out
                  have hB := a7.out
                  have hC := bb.out
                  have cN : bd.cell? ⟨ag, 0, none⟩ = some (.string ai) := (blk_cell ab.out 0).trans rfl
                  have cO : bd.cell? ⟨ag, 1, none⟩ = some (.string aj) := (blk_cell ab.out 1).trans rfl
                  have cP := blk_frozen ab.out 0
                  have cQ := blk_frozen ab.out 1
                  go_wp2_with (first | ((with_reducible refine gate_callee (f := 23) rfl ?_); refine goesL_ (some 176) rfl rfl Tryd.func23 (by kernel_rfl) rfl #[.agg #[.slice ap ae.length am], .agg #[.string ai, .string aj]] rfl (by (try simp only [List.map_toArray, List.map_cons, List.map_nil]); first | done | rfl | (simp only [List.length_drop, List.length_take]; rfl)) ?_; (with_reducible refine (graftwoodref10_Place.calls kj77 _ _ ae ai aj bi _ ?side1 ?side2 bP.out).mono ?_); (case side1 => repeat (first | exact (Kd.R_reads' aa.out).2.2 | (with_reducible refine Kd.C_alloc ?_ _) | (with_reducible refine Kd.C_drewN ?_ _) | (with_reducible refine Kd.C_drew ?_))); (case side2 => exact (Kd.R_reads' aa.out).2.1); rintro e eX ⟨rfl, hb⟩; refine ⟨_, rfl, ?_⟩; have n0_ := Aside0.mk (Kd.R_below (by (with_reducible repeat (first | apply Kd.R_alloc | apply Kd.R_drewN | apply Kd.R_drew)); exact aa.out) hb); have n1_ := Aside0.mk (Kd.V_below (by (with_reducible repeat (first | apply Kd.V_alloc | apply Kd.V_drewN | apply Kd.V_drew)); exact ad.out) hb); have n2_ := Aside0.mk (Kd.V_below (by (with_reducible repeat (first | apply Kd.V_alloc | apply Kd.V_drewN | apply Kd.V_drew)); exact ay.out) hb); have n3_ := Aside0.mk (blk_below (g := ah) (o := .cells #[.slice ap ae.length am] 24 (0, 0)) (by (with_reducible repeat (first | refine blk_drewN ?_ _ | refine blk_drew ?_ | refine blk_alloc ?_ _)); exact ac.out) hb); have n4_ := Aside0.mk (blk_below (g := ag) (o := .cells #[.string ai, .string aj] 34 (0, 0)) (by (with_reducible repeat (first | refine blk_drewN ?_ _ | refine blk_drew ?_ | refine blk_alloc ?_ _)); exact ab.out) hb); have n5_ := Aside0.mk (blk_below (g := al) (o := .cells #[.slice aY ak.length aZ] 24 (0, 0)) (by (with_reducible repeat (first | refine blk_drewN ?_ _ | refine blk_drew ?_ | refine blk_alloc ?_ _)); exact af.out) hb); have n6_ := Aside0.mk (blk_below (g := aI) (o := .cells #[.slice a9 aN.length a_] 24 (0, 0)) (by (with_reducible repeat (first | refine blk_drewN ?_ _ | refine blk_drew ?_ | refine blk_alloc ?_ _)); exact av.out) hb); have n7_ := Aside0.mk (below_step (by repeat (first | (with_reducible first | exact HB.out | apply below_alloc | apply pw_below_drewN | apply below_drew1 | refine below_set ?_ an.out | refine below_set ?_ ao.out | refine below_set ?_ au.out | refine below_set ?_ a8.out) | exact HB.out)) hb); clear aa; clear ad; clear ay; clear ac; clear ab; clear af; clear av; clear HB; have aa := n0_; have ad := n1_; have ay := n2_; have ac := n3_; have ab := n4_; have af := n5_; have av := n6_; have HB := n7_; clear n0_ n1_ n2_ n3_ n4_ n5_ n6_ n7_; (try clear hb); (try clear hb2); (try clear hk); (try clear hi); have cR : eX.cell? ⟨ah, 0, none⟩ = some (.slice ap ae.length am) := (blk_cell ac.out 0).trans rfl; have cS := blk_frozen ac.out 0; have cT : eX.cell? ⟨ag, 0, none⟩ = some (.string ai) := (blk_cell ab.out 0).trans rfl; have cU : eX.cell? ⟨ag, 1, none⟩ = some (.string aj) := (blk_cell ab.out 1).trans rfl; have cV := blk_frozen ab.out 0; have cW := blk_frozen ab.out 1) | (go_at_call 23; (with_reducible refine (graftwoodref10_Place.calls kj77 _ _ ae ai aj bn _ ?side1 ?side2 eV.out).mono ?_); (case side1 => repeat (first | exact (Kd.R_reads' aa.out).2.2 | (with_reducible refine Kd.C_alloc ?_ _) | (with_reducible refine Kd.C_drewN ?_ _) | (with_reducible refine Kd.C_drew ?_))); (case side2 => exact (Kd.R_reads' aa.out).2.1); rintro e jS ⟨rfl, hb⟩; have n0_ := Aside0.mk (Kd.R_below (by (with_reducible repeat (first | apply Kd.R_alloc | apply Kd.R_drewN | apply Kd.R_drew)); exact aa.out) hb); have n1_ := Aside0.mk (Kd.V_below (by (with_reducible repeat (first | apply Kd.V_alloc | apply Kd.V_drewN | apply Kd.V_drew)); exact ad.out) hb); have n2_ := Aside0.mk (Kd.V_below (by (with_reducible repeat (first | apply Kd.V_alloc | apply Kd.V_drewN | apply Kd.V_drew)); exact ay.out) hb); have n3_ := Aside0.mk (blk_below (g := ah) (o := .cells #[.slice ap ae.length am] 24 (0, 0)) (by (with_reducible repeat (first | refine blk_drewN ?_ _ | refine blk_drew ?_ | refine blk_alloc ?_ _)); exact ac.out) hb); have n4_ := Aside0.mk (blk_below (g := ag) (o := .cells #[.string ai, .string aj] 34 (0, 0)) (by (with_reducible repeat (first | refine blk_drewN ?_ _ | refine blk_drew ?_ | refine blk_alloc ?_ _)); exact ab.out) hb); have n5_ := Aside0.mk (blk_below (g := al) (o := .cells #[.slice aY ak.length aZ] 24 (0, 0)) (by (with_reducible repeat (first | refine blk_drewN ?_ _ | refine blk_drew ?_ | refine blk_alloc ?_ _)); exact af.out) hb); have n6_ := Aside0.mk (blk_below (g := aI) (o := .cells #[.slice a9 aN.length a_] 24 (0, 0)) (by (with_reducible repeat (first | refine blk_drewN ?_ _ | refine blk_drew ?_ | refine blk_alloc ?_ _)); exact av.out) hb); have n7_ := Aside0.mk (below_step (by repeat (first | (with_reducible first | exact HB.out | apply below_alloc | apply pw_below_drewN | apply below_drew1 | refine below_set ?_ an.out | refine below_set ?_ ao.out | refine below_set ?_ au.out | refine below_set ?_ a8.out) | exact HB.out)) hb); clear aa; clear ad; clear ay; clear ac; clear ab; clear af; clear av; clear HB; have aa := n0_; have ad := n1_; have ay := n2_; have ac := n3_; have ab := n4_; have af := n5_; have av := n6_; have HB := n7_; clear n0_ n1_ n2_ n3_ n4_ n5_ n6_ n7_; (try clear hb); (try clear hb2); (try clear hk); (try clear hi)))
                  go_meet
                  case rel => exact ⟨_, (true), (by first | rfl | (simp; done) | (simp [*]; done)), H', ⟨by have := HJ5.out; have := HK2.out; have := bO.out; first | omega | exact Nat.le_refl _⟩, ⟨by (with_reducible repeat (first | apply Kd.R_alloc | apply Kd.R_drewN | apply Kd.R_drew)); exact aa.out⟩, ⟨by (with_reducible repeat (first | apply Kd.V_alloc | apply Kd.V_drewN | apply Kd.V_drew)); exact ad.out⟩, ⟨by (with_reducible repeat (first | apply Kd.V_alloc | apply Kd.V_drewN | apply Kd.V_drew)); exact ay.out⟩, ⟨by (with_reducible repeat (first | refine blk_drewN ?_ _ | refine blk_drew ?_ | refine blk_alloc ?_ _)); exact ac.out⟩, ⟨by (with_reducible repeat (first | refine blk_drewN ?_ _ | refine blk_drew ?_ | refine blk_alloc ?_ _)); exact ab.out⟩, ⟨by (with_reducible repeat (first | refine blk_drewN ?_ _ | refine blk_drew ?_ | refine blk_alloc ?_ _)); exact af.out⟩, ⟨by (with_reducible repeat (first | refine blk_drewN ?_ _ | refine blk_drew ?_ | refine blk_alloc ?_ _)); exact av.out⟩, ⟨by repeat (first | (with_reducible first | exact HB.out | apply below_alloc | apply pw_below_drewN | apply below_drew1 | refine below_set ?_ an.out | refine below_set ?_ ao.out | refine below_set ?_ au.out | refine below_set ?_ a8.out) | exact HB.out)⟩⟩
                ·rw [if_neg bW] at H
                 have cw : decide (0 ≤ bn) = false := decide_eq_false bW
                 clear bW
                 have H' := Aside0.mk H
                 clear H
                 have hD := aH.out
                 have hE := aJ.out
                 have hF := aK.out
                 have hG := aR.out
                 have hH := a6.out
                 have hI := ba.out
                 have cX : bd.cell? ⟨ah, 0, none⟩ = some (.slice ap ae.length am) := (blk_cell ac.out 0).trans rfl
                 have cY := blk_frozen ac.out 0
                 have hJ := aD.out
                 have hL := aU.out
                 have hM := a7.out
                 have hN := bb.out
                 have cZ : bd.cell? ⟨ag, 0, none⟩ = some (.string ai) := (blk_cell ab.out 0).trans rfl
                 have c0 : bd.cell? ⟨ag, 1, none⟩ = some (.string aj) := (blk_cell ab.out 1).trans rfl
                 have c_ := blk_frozen ab.out 0
                 have da := blk_frozen ab.out 1
                 go_wp2_with (first | ((with_reducible refine gate_callee (f := 23) rfl ?_); refine goesL_ (some 176) rfl rfl Tryd.func23 (by kernel_rfl) rfl #[.agg #[.slice ap ae.length am], .agg #[.string ai, .string aj]] rfl (by (try simp only [List.map_toArray, List.map_cons, List.map_nil]); first | done | rfl | (simp only [List.length_drop, List.length_take]; rfl)) ?_; (with_reducible refine (graftwoodref10_Place.calls kj77 _ _ ae ai aj bi _ ?side1 ?side2 bP.out).mono ?_); (case side1 => repeat (first | exact (Kd.R_reads' aa.out).2.2 | (with_reducible refine Kd.C_alloc ?_ _) | (with_reducible refine Kd.C_drewN ?_ _) | (with_reducible refine Kd.C_drew ?_))); (case side2 => exact (Kd.R_reads' aa.out).2.1); rintro e eY ⟨rfl, hb⟩; refine ⟨_, rfl, ?_⟩; have n0_ := Aside0.mk (Kd.R_below (by (with_reducible repeat (first | apply Kd.R_alloc | apply Kd.R_drewN | apply Kd.R_drew)); exact aa.out) hb); have n1_ := Aside0.mk (Kd.V_below (by (with_reducible repeat (first | apply Kd.V_alloc | apply Kd.V_drewN | apply Kd.V_drew)); exact ad.out) hb); have n2_ := Aside0.mk (Kd.V_below (by (with_reducible repeat (first | apply Kd.V_alloc | apply Kd.V_drewN | apply Kd.V_drew)); exact ay.out) hb); have n3_ := Aside0.mk (blk_below (g := ah) (o := .cells #[.slice ap ae.length am] 24 (0, 0)) (by (with_reducible repeat (first | refine blk_drewN ?_ _ | refine blk_drew ?_ | refine blk_alloc ?_ _)); exact ac.out) hb); have n4_ := Aside0.mk (blk_below (g := ag) (o := .cells #[.string ai, .string aj] 34 (0, 0)) (by (with_reducible repeat (first | refine blk_drewN ?_ _ | refine blk_drew ?_ | refine blk_alloc ?_ _)); exact ab.out) hb); have n5_ := Aside0.mk (blk_below (g := al) (o := .cells #[.slice aY ak.length aZ] 24 (0, 0)) (by (with_reducible repeat (first | refine blk_drewN ?_ _ | refine blk_drew ?_ | refine blk_alloc ?_ _)); exact af.out) hb); have n6_ := Aside0.mk (blk_below (g := aI) (o := .cells #[.slice a9 aN.length a_] 24 (0, 0)) (by (with_reducible repeat (first | refine blk_drewN ?_ _ | refine blk_drew ?_ | refine blk_alloc ?_ _)); exact av.out) hb); have n7_ := Aside0.mk (below_step (by repeat (first | (with_reducible first | exact HB.out | apply below_alloc | apply pw_below_drewN | apply below_drew1 | refine below_set ?_ an.out | refine below_set ?_ ao.out | refine below_set ?_ au.out | refine below_set ?_ a8.out) | exact HB.out)) hb); clear aa; clear ad; clear ay; clear ac; clear ab; clear af; clear av; clear HB; have aa := n0_; have ad := n1_; have ay := n2_; have ac := n3_; have ab := n4_; have af := n5_; have av := n6_; have HB := n7_; clear n0_ n1_ n2_ n3_ n4_ n5_ n6_ n7_; (try clear hb); (try clear hb2); (try clear hk); (try clear hi); have db : eY.cell? ⟨ah, 0, none⟩ = some (.slice ap ae.length am) := (blk_cell ac.out 0).trans rfl; have dc := blk_frozen ac.out 0; have dd : eY.cell? ⟨ag, 0, none⟩ = some (.string ai) := (blk_cell ab.out 0).trans rfl; have de : eY.cell? ⟨ag, 1, none⟩ = some (.string aj) := (blk_cell ab.out 1).trans rfl; have df := blk_frozen ab.out 0; have dg := blk_frozen ab.out 1) | (go_at_call 23; (with_reducible refine (graftwoodref10_Place.calls kj77 _ _ ae ai aj bn _ ?side1 ?side2 eV.out).mono ?_); (case side1 => repeat (first | exact (Kd.R_reads' aa.out).2.2 | (with_reducible refine Kd.C_alloc ?_ _) | (with_reducible refine Kd.C_drewN ?_ _) | (with_reducible refine Kd.C_drew ?_))); (case side2 => exact (Kd.R_reads' aa.out).2.1); rintro e jT ⟨rfl, hb⟩; have n0_ := Aside0.mk (Kd.R_below (by (with_reducible repeat (first | apply Kd.R_alloc | apply Kd.R_drewN | apply Kd.R_drew)); exact aa.out) hb); have n1_ := Aside0.mk (Kd.V_below (by (with_reducible repeat (first | apply Kd.V_alloc | apply Kd.V_drewN | apply Kd.V_drew)); exact ad.out) hb); have n2_ := Aside0.mk (Kd.V_below (by (with_reducible repeat (first | apply Kd.V_alloc | apply Kd.V_drewN | apply Kd.V_drew)); exact ay.out) hb); have n3_ := Aside0.mk (blk_below (g := ah) (o := .cells #[.slice ap ae.length am] 24 (0, 0)) (by (with_reducible repeat (first | refine blk_drewN ?_ _ | refine blk_drew ?_ | refine blk_alloc ?_ _)); exact ac.out) hb); have n4_ := Aside0.mk (blk_below (g := ag) (o := .cells #[.string ai, .string aj] 34 (0, 0)) (by (with_reducible repeat (first | refine blk_drewN ?_ _ | refine blk_drew ?_ | refine blk_alloc ?_ _)); exact ab.out) hb); have n5_ := Aside0.mk (blk_below (g := al) (o := .cells #[.slice aY ak.length aZ] 24 (0, 0)) (by (with_reducible repeat (first | refine blk_drewN ?_ _ | refine blk_drew ?_ | refine blk_alloc ?_ _)); exact af.out) hb); have n6_ := Aside0.mk (blk_below (g := aI) (o := .cells #[.slice a9 aN.length a_] 24 (0, 0)) (by (with_reducible repeat (first | refine blk_drewN ?_ _ | refine blk_drew ?_ | refine blk_alloc ?_ _)); exact av.out) hb); have n7_ := Aside0.mk (below_step (by repeat (first | (with_reducible first | exact HB.out | apply below_alloc | apply pw_below_drewN | apply below_drew1 | refine below_set ?_ an.out | refine below_set ?_ ao.out | refine below_set ?_ au.out | refine below_set ?_ a8.out) | exact HB.out)) hb); clear aa; clear ad; clear ay; clear ac; clear ab; clear af; clear av; clear HB; have aa := n0_; have ad := n1_; have ay := n2_; have ac := n3_; have ab := n4_; have af := n5_; have av := n6_; have HB := n7_; clear n0_ n1_ n2_ n3_ n4_ n5_ n6_ n7_; (try clear hb); (try clear hb2); (try clear hk); (try clear hi)))
                 go_meet
                 case rel => exact ⟨_, (false), (by first | rfl | (simp; done) | (simp [*]; done)), H', ⟨by have := HJ5.out; have := HK2.out; have := bO.out; first | omega | exact Nat.le_refl _⟩, ⟨by (with_reducible repeat (first | apply Kd.R_alloc | apply Kd.R_drewN | apply Kd.R_drew)); exact aa.out⟩, ⟨by (with_reducible repeat (first | apply Kd.V_alloc | apply Kd.V_drewN | apply Kd.V_drew)); exact ad.out⟩, ⟨by (with_reducible repeat (first | apply Kd.V_alloc | apply Kd.V_drewN | apply Kd.V_drew)); exact ay.out⟩, ⟨by (with_reducible repeat (first | refine blk_drewN ?_ _ | refine blk_drew ?_ | refine blk_alloc ?_ _)); exact ac.out⟩, ⟨by (with_reducible repeat (first | refine blk_drewN ?_ _ | refine blk_drew ?_ | refine blk_alloc ?_ _)); exact ab.out⟩, ⟨by (with_reducible repeat (first | refine blk_drewN ?_ _ | refine blk_drew ?_ | refine blk_alloc ?_ _)); exact af.out⟩, ⟨by (with_reducible repeat (first | refine blk_drewN ?_ _ | refine blk_drew ?_ | refine blk_alloc ?_ _)); exact av.out⟩, ⟨by repeat (first | (with_reducible first | exact HB.out | apply below_alloc | apply pw_below_drewN | apply below_drew1 | refine below_set ?_ an.out | refine below_set ?_ ao.out | refine below_set ?_ au.out | refine below_set ?_ a8.out) | exact HB.out)⟩⟩
               ·rw [if_neg bR] at H
                have cu : (aE == 2) = false := beq_eq_false_iff_ne.mpr bR
                have cv : (aE != 2) = true := bne_iff_ne.mpr bR
                have H' := Aside0.mk H
                clear H
                have hO := aH.out
                have hP := aJ.out
                have hQ := aK.out
                have hR := aR.out
                have hS := a6.out
                have hT := ba.out
                have dh : bd.cell? ⟨ah, 0, none⟩ = some (.slice ap ae.length am) := (blk_cell ac.out 0).trans rfl
                have di := blk_frozen ac.out 0
                have hU := aD.out
                have hV := aU.out
                have hW := a7.out
                have hX := bb.out
                have dj : bd.cell? ⟨ag, 0, none⟩ = some (.string ai) := (blk_cell ab.out 0).trans rfl
                have dk : bd.cell? ⟨ag, 1, none⟩ = some (.string aj) := (blk_cell ab.out 1).trans rfl
                have dl := blk_frozen ab.out 0
                have dm := blk_frozen ab.out 1
                go_wp2_with (first | ((with_reducible refine gate_callee (f := 23) rfl ?_); refine goesL_ (some 176) rfl rfl Tryd.func23 (by kernel_rfl) rfl #[.agg #[.slice ap ae.length am], .agg #[.string ai, .string aj]] rfl (by (try simp only [List.map_toArray, List.map_cons, List.map_nil]); first | done | rfl | (simp only [List.length_drop, List.length_take]; rfl)) ?_; (with_reducible refine (graftwoodref10_Place.calls kj77 _ _ ae ai aj bi _ ?side1 ?side2 bP.out).mono ?_); (case side1 => repeat (first | exact (Kd.R_reads' aa.out).2.2 | (with_reducible refine Kd.C_alloc ?_ _) | (with_reducible refine Kd.C_drewN ?_ _) | (with_reducible refine Kd.C_drew ?_))); (case side2 => exact (Kd.R_reads' aa.out).2.1); rintro e jU ⟨rfl, hb⟩; refine ⟨_, rfl, ?_⟩; have n0_ := Aside0.mk (Kd.R_below (by (with_reducible repeat (first | apply Kd.R_alloc | apply Kd.R_drewN | apply Kd.R_drew)); exact aa.out) hb); have n1_ := Aside0.mk (Kd.V_below (by (with_reducible repeat (first | apply Kd.V_alloc | apply Kd.V_drewN | apply Kd.V_drew)); exact ad.out) hb); have n2_ := Aside0.mk (Kd.V_below (by (with_reducible repeat (first | apply Kd.V_alloc | apply Kd.V_drewN | apply Kd.V_drew)); exact ay.out) hb); have n3_ := Aside0.mk (blk_below (g := ah) (o := .cells #[.slice ap ae.length am] 24 (0, 0)) (by (with_reducible repeat (first | refine blk_drewN ?_ _ | refine blk_drew ?_ | refine blk_alloc ?_ _)); exact ac.out) hb); have n4_ := Aside0.mk (blk_below (g := ag) (o := .cells #[.string ai, .string aj] 34 (0, 0)) (by (with_reducible repeat (first | refine blk_drewN ?_ _ | refine blk_drew ?_ | refine blk_alloc ?_ _)); exact ab.out) hb); have n5_ := Aside0.mk (blk_below (g := al) (o := .cells #[.slice aY ak.length aZ] 24 (0, 0)) (by (with_reducible repeat (first | refine blk_drewN ?_ _ | refine blk_drew ?_ | refine blk_alloc ?_ _)); exact af.out) hb); have n6_ := Aside0.mk (blk_below (g := aI) (o := .cells #[.slice a9 aN.length a_] 24 (0, 0)) (by (with_reducible repeat (first | refine blk_drewN ?_ _ | refine blk_drew ?_ | refine blk_alloc ?_ _)); exact av.out) hb); have n7_ := Aside0.mk (below_step (by repeat (first | (with_reducible first | exact HB.out | apply below_alloc | apply pw_below_drewN | apply below_drew1 | refine below_set ?_ an.out | refine below_set ?_ ao.out | refine below_set ?_ au.out | refine below_set ?_ a8.out) | exact HB.out)) hb); clear aa; clear ad; clear ay; clear ac; clear ab; clear af; clear av; clear HB; have aa := n0_; have ad := n1_; have ay := n2_; have ac := n3_; have ab := n4_; have af := n5_; have av := n6_; have HB := n7_; clear n0_ n1_ n2_ n3_ n4_ n5_ n6_ n7_; (try clear hb); (try clear hb2); (try clear hk); (try clear hi)))
                go_meet
                case rel => exact ⟨_, (true), (by first | rfl | (simp; done) | (simp [*]; done)), H', ⟨by have := HJ5.out; have := HK2.out; have := bO.out; first | omega | exact Nat.le_refl _⟩, ⟨by (with_reducible repeat (first | apply Kd.R_alloc | apply Kd.R_drewN | apply Kd.R_drew)); exact aa.out⟩, ⟨by (with_reducible repeat (first | apply Kd.V_alloc | apply Kd.V_drewN | apply Kd.V_drew)); exact ad.out⟩, ⟨by (with_reducible repeat (first | apply Kd.V_alloc | apply Kd.V_drewN | apply Kd.V_drew)); exact ay.out⟩, ⟨by (with_reducible repeat (first | refine blk_drewN ?_ _ | refine blk_drew ?_ | refine blk_alloc ?_ _)); exact ac.out⟩, ⟨by (with_reducible repeat (first | refine blk_drewN ?_ _ | refine blk_drew ?_ | refine blk_alloc ?_ _)); exact ab.out⟩, ⟨by (with_reducible repeat (first | refine blk_drewN ?_ _ | refine blk_drew ?_ | refine blk_alloc ?_ _)); exact af.out⟩, ⟨by (with_reducible repeat (first | refine blk_drewN ?_ _ | refine blk_drew ?_ | refine blk_alloc ?_ _)); exact av.out⟩, ⟨by repeat (first | (with_reducible first | exact HB.out | apply below_alloc | apply pw_below_drewN | apply below_drew1 | refine below_set ?_ an.out | refine below_set ?_ ao.out | refine below_set ?_ au.out | refine below_set ?_ a8.out) | exact HB.out)⟩⟩
              ·rw [if_neg bQ] at H
               have cr : (aA == 0) = false := beq_eq_false_iff_ne.mpr bQ
               have ct : (aA != 0) = true := bne_iff_ne.mpr bQ
               have H' := Aside0.mk H
               clear H
               have hY := aH.out
               have hZ := aJ.out
               have h0 := aK.out
               have h1 := aR.out
               have h2 := a6.out
               have h3 := ba.out
               have dn : bd.cell? ⟨ah, 0, none⟩ = some (.slice ap ae.length am) := (blk_cell ac.out 0).trans rfl
               have dp := blk_frozen ac.out 0
               have h4 := aD.out
               have h5 := aU.out
               have h6 := a7.out
               have h7 := bb.out
               have dq : bd.cell? ⟨ag, 0, none⟩ = some (.string ai) := (blk_cell ab.out 0).trans rfl
               have dr : bd.cell? ⟨ag, 1, none⟩ = some (.string aj) := (blk_cell ab.out 1).trans rfl
               have dt := blk_frozen ab.out 0
               have du := blk_frozen ab.out 1
               go_wp2_with (first | ((with_reducible refine gate_callee (f := 23) rfl ?_); refine goesL_ (some 176) rfl rfl Tryd.func23 (by kernel_rfl) rfl #[.agg #[.slice ap ae.length am], .agg #[.string ai, .string aj]] rfl (by (try simp only [List.map_toArray, List.map_cons, List.map_nil]); first | done | rfl | (simp only [List.length_drop, List.length_take]; rfl)) ?_; (with_reducible refine (graftwoodref10_Place.calls kj77 _ _ ae ai aj bi _ ?side1 ?side2 bP.out).mono ?_); (case side1 => repeat (first | exact (Kd.R_reads' aa.out).2.2 | (with_reducible refine Kd.C_alloc ?_ _) | (with_reducible refine Kd.C_drewN ?_ _) | (with_reducible refine Kd.C_drew ?_))); (case side2 => exact (Kd.R_reads' aa.out).2.1); rintro e jV ⟨rfl, hb⟩; refine ⟨_, rfl, ?_⟩; have n0_ := Aside0.mk (Kd.R_below (by (with_reducible repeat (first | apply Kd.R_alloc | apply Kd.R_drewN | apply Kd.R_drew)); exact aa.out) hb); have n1_ := Aside0.mk (Kd.V_below (by (with_reducible repeat (first | apply Kd.V_alloc | apply Kd.V_drewN | apply Kd.V_drew)); exact ad.out) hb); have n2_ := Aside0.mk (Kd.V_below (by (with_reducible repeat (first | apply Kd.V_alloc | apply Kd.V_drewN | apply Kd.V_drew)); exact ay.out) hb); have n3_ := Aside0.mk (blk_below (g := ah) (o := .cells #[.slice ap ae.length am] 24 (0, 0)) (by (with_reducible repeat (first | refine blk_drewN ?_ _ | refine blk_drew ?_ | refine blk_alloc ?_ _)); exact ac.out) hb); have n4_ := Aside0.mk (blk_below (g := ag) (o := .cells #[.string ai, .string aj] 34 (0, 0)) (by (with_reducible repeat (first | refine blk_drewN ?_ _ | refine blk_drew ?_ | refine blk_alloc ?_ _)); exact ab.out) hb); have n5_ := Aside0.mk (blk_below (g := al) (o := .cells #[.slice aY ak.length aZ] 24 (0, 0)) (by (with_reducible repeat (first | refine blk_drewN ?_ _ | refine blk_drew ?_ | refine blk_alloc ?_ _)); exact af.out) hb); have n6_ := Aside0.mk (blk_below (g := aI) (o := .cells #[.slice a9 aN.length a_] 24 (0, 0)) (by (with_reducible repeat (first | refine blk_drewN ?_ _ | refine blk_drew ?_ | refine blk_alloc ?_ _)); exact av.out) hb); have n7_ := Aside0.mk (below_step (by repeat (first | (with_reducible first | exact HB.out | apply below_alloc | apply pw_below_drewN | apply below_drew1 | refine below_set ?_ an.out | refine below_set ?_ ao.out | refine below_set ?_ au.out | refine below_set ?_ a8.out) | exact HB.out)) hb); clear aa; clear ad; clear ay; clear ac; clear ab; clear af; clear av; clear HB; have aa := n0_; have ad := n1_; have ay := n2_; have ac := n3_; have ab := n4_; have af := n5_; have av := n6_; have HB := n7_; clear n0_ n1_ n2_ n3_ n4_ n5_ n6_ n7_; (try clear hb); (try clear hb2); (try clear hk); (try clear hi)))
               go_meet
               case rel => exact ⟨_, (true), (by first | rfl | (simp; done) | (simp [*]; done)), H', ⟨by have := HJ5.out; have := HK2.out; have := bO.out; first | omega | exact Nat.le_refl _⟩, ⟨by (with_reducible repeat (first | apply Kd.R_alloc | apply Kd.R_drewN | apply Kd.R_drew)); exact aa.out⟩, ⟨by (with_reducible repeat (first | apply Kd.V_alloc | apply Kd.V_drewN | apply Kd.V_drew)); exact ad.out⟩, ⟨by (with_reducible repeat (first | apply Kd.V_alloc | apply Kd.V_drewN | apply Kd.V_drew)); exact ay.out⟩, ⟨by (with_reducible repeat (first | refine blk_drewN ?_ _ | refine blk_drew ?_ | refine blk_alloc ?_ _)); exact ac.out⟩, ⟨by (with_reducible repeat (first | refine blk_drewN ?_ _ | refine blk_drew ?_ | refine blk_alloc ?_ _)); exact ab.out⟩, ⟨by (with_reducible repeat (first | refine blk_drewN ?_ _ | refine blk_drew ?_ | refine blk_alloc ?_ _)); exact af.out⟩, ⟨by (with_reducible repeat (first | refine blk_drewN ?_ _ | refine blk_drew ?_ | refine blk_alloc ?_ _)); exact av.out⟩, ⟨by repeat (first | (with_reducible first | exact HB.out | apply below_alloc | apply pw_below_drewN | apply below_drew1 | refine below_set ?_ an.out | refine below_set ?_ ao.out | refine below_set ?_ au.out | refine below_set ?_ a8.out) | exact HB.out)⟩⟩
             ·rw [if_neg bV] at H
              have bw : decide (bi < 0) = false := decide_eq_false bV
              clear bV
              (first | rw [bw] | (simp only [i64_w, i32_w]; rw [bw]) | skip)
              replace H := Option.bind_eq_some_iff.mp H
              obtain ⟨bo, eJ, H⟩ := H
              replace H : (if bo ≥ 0 then (if aA = a4 then (IIT.j3 kj77 ax ar a4 (aE != 0) ak aN) else (IIT.j3 kj77 ax ar a4 true ak aN)) else (IIT.j3 kj77 ax ar a4 false ak aN)) = some r := H
              have eZ := Aside0.mk eJ
              clear eJ
              by_cases bX : bo ≥ 0
              ·rw [if_pos bX] at H
               have dv : decide (0 ≤ bo) = true := decide_eq_true bX
               clear bX
               by_cases bT : aA = a4
               ·rw [if_pos bT] at H
                have dw : (aA == a4) = true := beq_iff_eq.mpr bT
                have dx : (aA != a4) = false := bne_eq_false_iff_eq.mpr bT
                clear bT
                have H' := Aside0.mk H
                clear H
                have h8 := aH.out
                have h9 := aJ.out
                have ia := aK.out
                have ib := aR.out
                have ic := a6.out
                have id := ba.out
                have dy : bd.cell? ⟨ah, 0, none⟩ = some (.slice ap ae.length am) := (blk_cell ac.out 0).trans rfl
                have dz := blk_frozen ac.out 0
                have ie := aD.out
                have ig := aU.out
                have ih := a7.out
                have ii := bb.out
                have dA : bd.cell? ⟨ag, 0, none⟩ = some (.string ai) := (blk_cell ab.out 0).trans rfl
                have dB : bd.cell? ⟨ag, 1, none⟩ = some (.string aj) := (blk_cell ab.out 1).trans rfl
                have dC := blk_frozen ab.out 0
                have dD := blk_frozen ab.out 1
                go_wp2_with (first | ((with_reducible refine gate_callee (f := 23) rfl ?_); refine goesL_ (some 176) rfl rfl Tryd.func23 (by kernel_rfl) rfl #[.agg #[.slice ap ae.length am], .agg #[.string ai, .string aj]] rfl (by (try simp only [List.map_toArray, List.map_cons, List.map_nil]); first | done | rfl | (simp only [List.length_drop, List.length_take]; rfl)) ?_; (with_reducible refine (graftwoodref10_Place.calls kj77 _ _ ae ai aj bi _ ?side1 ?side2 bP.out).mono ?_); (case side1 => repeat (first | exact (Kd.R_reads' aa.out).2.2 | (with_reducible refine Kd.C_alloc ?_ _) | (with_reducible refine Kd.C_drewN ?_ _) | (with_reducible refine Kd.C_drew ?_))); (case side2 => exact (Kd.R_reads' aa.out).2.1); rintro e e0 ⟨rfl, hb⟩; refine ⟨_, rfl, ?_⟩; have n0_ := Aside0.mk (Kd.R_below (by (with_reducible repeat (first | apply Kd.R_alloc | apply Kd.R_drewN | apply Kd.R_drew)); exact aa.out) hb); have n1_ := Aside0.mk (Kd.V_below (by (with_reducible repeat (first | apply Kd.V_alloc | apply Kd.V_drewN | apply Kd.V_drew)); exact ad.out) hb); have n2_ := Aside0.mk (Kd.V_below (by (with_reducible repeat (first | apply Kd.V_alloc | apply Kd.V_drewN | apply Kd.V_drew)); exact ay.out) hb); have n3_ := Aside0.mk (blk_below (g := ah) (o := .cells #[.slice ap ae.length am] 24 (0, 0)) (by (with_reducible repeat (first | refine blk_drewN ?_ _ | refine blk_drew ?_ | refine blk_alloc ?_ _)); exact ac.out) hb); have n4_ := Aside0.mk (blk_below (g := ag) (o := .cells #[.string ai, .string aj] 34 (0, 0)) (by (with_reducible repeat (first | refine blk_drewN ?_ _ | refine blk_drew ?_ | refine blk_alloc ?_ _)); exact ab.out) hb); have n5_ := Aside0.mk (blk_below (g := al) (o := .cells #[.slice aY ak.length aZ] 24 (0, 0)) (by (with_reducible repeat (first | refine blk_drewN ?_ _ | refine blk_drew ?_ | refine blk_alloc ?_ _)); exact af.out) hb); have n6_ := Aside0.mk (blk_below (g := aI) (o := .cells #[.slice a9 aN.length a_] 24 (0, 0)) (by (with_reducible repeat (first | refine blk_drewN ?_ _ | refine blk_drew ?_ | refine blk_alloc ?_ _)); exact av.out) hb); have n7_ := Aside0.mk (below_step (by repeat (first | (with_reducible first | exact HB.out | apply below_alloc | apply pw_below_drewN | apply below_drew1 | refine below_set ?_ an.out | refine below_set ?_ ao.out | refine below_set ?_ au.out | refine below_set ?_ a8.out) | exact HB.out)) hb); clear aa; clear ad; clear ay; clear ac; clear ab; clear af; clear av; clear HB; have aa := n0_; have ad := n1_; have ay := n2_; have ac := n3_; have ab := n4_; have af := n5_; have av := n6_; have HB := n7_; clear n0_ n1_ n2_ n3_ n4_ n5_ n6_ n7_; (try clear hb); (try clear hb2); (try clear hk); (try clear hi); have dE : e0.cell? ⟨ah, 0, none⟩ = some (.slice ap ae.length am) := (blk_cell ac.out 0).trans rfl; have dF := blk_frozen ac.out 0; have dG : e0.cell? ⟨ag, 0, none⟩ = some (.string ai) := (blk_cell ab.out 0).trans rfl; have dH : e0.cell? ⟨ag, 1, none⟩ = some (.string aj) := (blk_cell ab.out 1).trans rfl; have dI := blk_frozen ab.out 0; have dJ := blk_frozen ab.out 1) | (go_at_call 23; (with_reducible refine (graftwoodref10_Place.calls kj77 _ _ ae ai aj bo _ ?side1 ?side2 eZ.out).mono ?_); (case side1 => repeat (first | exact (Kd.R_reads' aa.out).2.2 | (with_reducible refine Kd.C_alloc ?_ _) | (with_reducible refine Kd.C_drewN ?_ _) | (with_reducible refine Kd.C_drew ?_))); (case side2 => exact (Kd.R_reads' aa.out).2.1); rintro e jW ⟨rfl, hb⟩; have n0_ := Aside0.mk (Kd.R_below (by (with_reducible repeat (first | apply Kd.R_alloc | apply Kd.R_drewN | apply Kd.R_drew)); exact aa.out) hb); have n1_ := Aside0.mk (Kd.V_below (by (with_reducible repeat (first | apply Kd.V_alloc | apply Kd.V_drewN | apply Kd.V_drew)); exact ad.out) hb); have n2_ := Aside0.mk (Kd.V_below (by (with_reducible repeat (first | apply Kd.V_alloc | apply Kd.V_drewN | apply Kd.V_drew)); exact ay.out) hb); have n3_ := Aside0.mk (blk_below (g := ah) (o := .cells #[.slice ap ae.length am] 24 (0, 0)) (by (with_reducible repeat (first | refine blk_drewN ?_ _ | refine blk_drew ?_ | refine blk_alloc ?_ _)); exact ac.out) hb); have n4_ := Aside0.mk (blk_below (g := ag) (o := .cells #[.string ai, .string aj] 34 (0, 0)) (by (with_reducible repeat (first | refine blk_drewN ?_ _ | refine blk_drew ?_ | refine blk_alloc ?_ _)); exact ab.out) hb); have n5_ := Aside0.mk (blk_below (g := al) (o := .cells #[.slice aY ak.length aZ] 24 (0, 0)) (by (with_reducible repeat (first | refine blk_drewN ?_ _ | refine blk_drew ?_ | refine blk_alloc ?_ _)); exact af.out) hb); have n6_ := Aside0.mk (blk_below (g := aI) (o := .cells #[.slice a9 aN.length a_] 24 (0, 0)) (by (with_reducible repeat (first | refine blk_drewN ?_ _ | refine blk_drew ?_ | refine blk_alloc ?_ _)); exact av.out) hb); have n7_ := Aside0.mk (below_step (by repeat (first | (with_reducible first | exact HB.out | apply below_alloc | apply pw_below_drewN | apply below_drew1 | refine below_set ?_ an.out | refine below_set ?_ ao.out | refine below_set ?_ au.out | refine below_set ?_ a8.out) | exact HB.out)) hb); clear aa; clear ad; clear ay; clear ac; clear ab; clear af; clear av; clear HB; have aa := n0_; have ad := n1_; have ay := n2_; have ac := n3_; have ab := n4_; have af := n5_; have av := n6_; have HB := n7_; clear n0_ n1_ n2_ n3_ n4_ n5_ n6_ n7_; (try clear hb); (try clear hb2); (try clear hk); (try clear hi)))
                go_meet
                case rel => exact ⟨_, ((aE != 0)), (by first | rfl | (simp; done) | (simp [*]; done)), H', ⟨by have := HJ5.out; have := HK2.out; have := bO.out; first | omega | exact Nat.le_refl _⟩, ⟨by (with_reducible repeat (first | apply Kd.R_alloc | apply Kd.R_drewN | apply Kd.R_drew)); exact aa.out⟩, ⟨by (with_reducible repeat (first | apply Kd.V_alloc | apply Kd.V_drewN | apply Kd.V_drew)); exact ad.out⟩, ⟨by (with_reducible repeat (first | apply Kd.V_alloc | apply Kd.V_drewN | apply Kd.V_drew)); exact ay.out⟩, ⟨by (with_reducible repeat (first | refine blk_drewN ?_ _ | refine blk_drew ?_ | refine blk_alloc ?_ _)); exact ac.out⟩, ⟨by (with_reducible repeat (first | refine blk_drewN ?_ _ | refine blk_drew ?_ | refine blk_alloc ?_ _)); exact ab.out⟩, ⟨by (with_reducible repeat (first | refine blk_drewN ?_ _ | refine blk_drew ?_ | refine blk_alloc ?_ _)); exact af.out⟩, ⟨by (with_reducible repeat (first | refine blk_drewN ?_ _ | refine blk_drew ?_ | refine blk_alloc ?_ _)); exact av.out⟩, ⟨by repeat (first | (with_reducible first | exact HB.out | apply below_alloc | apply pw_below_drewN | apply below_drew1 | refine below_set ?_ an.out | refine below_set ?_ ao.out | refine below_set ?_ au.out | refine below_set ?_ a8.out) | exact HB.out)⟩⟩
               ·rw [if_neg bT] at H
                have dw : (aA == a4) = false := beq_eq_false_iff_ne.mpr bT
                have dx : (aA != a4) = true := bne_iff_ne.mpr bT
                have H' := Aside0.mk H
                clear H
                have ij := aH.out
                have ik := aJ.out
                have il := aK.out
                have im := aR.out
                have io := a6.out
                have ip := ba.out
                have dK : bd.cell? ⟨ah, 0, none⟩ = some (.slice ap ae.length am) := (blk_cell ac.out 0).trans rfl
                have dL := blk_frozen ac.out 0
                have iq := aD.out
                have ir := aU.out
                have it := a7.out
                have iu := bb.out
                have dM : bd.cell? ⟨ag, 0, none⟩ = some (.string ai) := (blk_cell ab.out 0).trans rfl
                have dN : bd.cell? ⟨ag, 1, none⟩ = some (.string aj) := (blk_cell ab.out 1).trans rfl
                have dP := blk_frozen ab.out 0
                have dQ := blk_frozen ab.out 1
                go_wp2_with (first | ((with_reducible refine gate_callee (f := 23) rfl ?_); refine goesL_ (some 176) rfl rfl Tryd.func23 (by kernel_rfl) rfl #[.agg #[.slice ap ae.length am], .agg #[.string ai, .string aj]] rfl (by (try simp only [List.map_toArray, List.map_cons, List.map_nil]); first | done | rfl | (simp only [List.length_drop, List.length_take]; rfl)) ?_; (with_reducible refine (graftwoodref10_Place.calls kj77 _ _ ae ai aj bi _ ?side1 ?side2 bP.out).mono ?_); (case side1 => repeat (first | exact (Kd.R_reads' aa.out).2.2 | (with_reducible refine Kd.C_alloc ?_ _) | (with_reducible refine Kd.C_drewN ?_ _) | (with_reducible refine Kd.C_drew ?_))); (case side2 => exact (Kd.R_reads' aa.out).2.1); rintro e e1 ⟨rfl, hb⟩; refine ⟨_, rfl, ?_⟩; have n0_ := Aside0.mk (Kd.R_below (by (with_reducible repeat (first | apply Kd.R_alloc | apply Kd.R_drewN | apply Kd.R_drew)); exact aa.out) hb); have n1_ := Aside0.mk (Kd.V_below (by (with_reducible repeat (first | apply Kd.V_alloc | apply Kd.V_drewN | apply Kd.V_drew)); exact ad.out) hb); have n2_ := Aside0.mk (Kd.V_below (by (with_reducible repeat (first | apply Kd.V_alloc | apply Kd.V_drewN | apply Kd.V_drew)); exact ay.out) hb); have n3_ := Aside0.mk (blk_below (g := ah) (o := .cells #[.slice ap ae.length am] 24 (0, 0)) (by (with_reducible repeat (first | refine blk_drewN ?_ _ | refine blk_drew ?_ | refine blk_alloc ?_ _)); exact ac.out) hb); have n4_ := Aside0.mk (blk_below (g := ag) (o := .cells #[.string ai, .string aj] 34 (0, 0)) (by (with_reducible repeat (first | refine blk_drewN ?_ _ | refine blk_drew ?_ | refine blk_alloc ?_ _)); exact ab.out) hb); have n5_ := Aside0.mk (blk_below (g := al) (o := .cells #[.slice aY ak.length aZ] 24 (0, 0)) (by (with_reducible repeat (first | refine blk_drewN ?_ _ | refine blk_drew ?_ | refine blk_alloc ?_ _)); exact af.out) hb); have n6_ := Aside0.mk (blk_below (g := aI) (o := .cells #[.slice a9 aN.length a_] 24 (0, 0)) (by (with_reducible repeat (first | refine blk_drewN ?_ _ | refine blk_drew ?_ | refine blk_alloc ?_ _)); exact av.out) hb); have n7_ := Aside0.mk (below_step (by repeat (first | (with_reducible first | exact HB.out | apply below_alloc | apply pw_below_drewN | apply below_drew1 | refine below_set ?_ an.out | refine below_set ?_ ao.out | refine below_set ?_ au.out | refine below_set ?_ a8.out) | exact HB.out)) hb); clear aa; clear ad; clear ay; clear ac; clear ab; clear af; clear av; clear HB; have aa := n0_; have ad := n1_; have ay := n2_; have ac := n3_; have ab := n4_; have af := n5_; have av := n6_; have HB := n7_; clear n0_ n1_ n2_ n3_ n4_ n5_ n6_ n7_; (try clear hb); (try clear hb2); (try clear hk); (try clear hi); have dR : e1.cell? ⟨ah, 0, none⟩ = some (.slice ap ae.length am) := (blk_cell ac.out 0).trans rfl; have dS := blk_frozen ac.out 0; have dT : e1.cell? ⟨ag, 0, none⟩ = some (.string ai) := (blk_cell ab.out 0).trans rfl; have dU : e1.cell? ⟨ag, 1, none⟩ = some (.string aj) := (blk_cell ab.out 1).trans rfl; have dV := blk_frozen ab.out 0; have dW := blk_frozen ab.out 1) | (go_at_call 23; (with_reducible refine (graftwoodref10_Place.calls kj77 _ _ ae ai aj bo _ ?side1 ?side2 eZ.out).mono ?_); (case side1 => repeat (first | exact (Kd.R_reads' aa.out).2.2 | (with_reducible refine Kd.C_alloc ?_ _) | (with_reducible refine Kd.C_drewN ?_ _) | (with_reducible refine Kd.C_drew ?_))); (case side2 => exact (Kd.R_reads' aa.out).2.1); rintro e jX ⟨rfl, hb⟩; have n0_ := Aside0.mk (Kd.R_below (by (with_reducible repeat (first | apply Kd.R_alloc | apply Kd.R_drewN | apply Kd.R_drew)); exact aa.out) hb); have n1_ := Aside0.mk (Kd.V_below (by (with_reducible repeat (first | apply Kd.V_alloc | apply Kd.V_drewN | apply Kd.V_drew)); exact ad.out) hb); have n2_ := Aside0.mk (Kd.V_below (by (with_reducible repeat (first | apply Kd.V_alloc | apply Kd.V_drewN | apply Kd.V_drew)); exact ay.out) hb); have n3_ := Aside0.mk (blk_below (g := ah) (o := .cells #[.slice ap ae.length am] 24 (0, 0)) (by (with_reducible repeat (first | refine blk_drewN ?_ _ | refine blk_drew ?_ | refine blk_alloc ?_ _)); exact ac.out) hb); have n4_ := Aside0.mk (blk_below (g := ag) (o := .cells #[.string ai, .string aj] 34 (0, 0)) (by (with_reducible repeat (first | refine blk_drewN ?_ _ | refine blk_drew ?_ | refine blk_alloc ?_ _)); exact ab.out) hb); have n5_ := Aside0.mk (blk_below (g := al) (o := .cells #[.slice aY ak.length aZ] 24 (0, 0)) (by (with_reducible repeat (first | refine blk_drewN ?_ _ | refine blk_drew ?_ | refine blk_alloc ?_ _)); exact af.out) hb); have n6_ := Aside0.mk (blk_below (g := aI) (o := .cells #[.slice a9 aN.length a_] 24 (0, 0)) (by (with_reducible repeat (first | refine blk_drewN ?_ _ | refine blk_drew ?_ | refine blk_alloc ?_ _)); exact av.out) hb); have n7_ := Aside0.mk (below_step (by repeat (first | (with_reducible first | exact HB.out | apply below_alloc | apply pw_below_drewN | apply below_drew1 | refine below_set ?_ an.out | refine below_set ?_ ao.out | refine below_set ?_ au.out | refine below_set ?_ a8.out) | exact HB.out)) hb); clear aa; clear ad; clear ay; clear ac; clear ab; clear af; clear av; clear HB; have aa := n0_; have ad := n1_; have ay := n2_; have ac := n3_; have ab := n4_; have af := n5_; have av := n6_; have HB := n7_; clear n0_ n1_ n2_ n3_ n4_ n5_ n6_ n7_; (try clear hb); (try clear hb2); (try clear hk); (try clear hi)))
                go_meet
                case rel => exact ⟨_, (true), (by first | rfl | (simp; done) | (simp [*]; done)), H', ⟨by have := HJ5.out; have := HK2.out; have := bO.out; first | omega | exact Nat.le_refl _⟩, ⟨by (with_reducible repeat (first | apply Kd.R_alloc | apply Kd.R_drewN | apply Kd.R_drew)); exact aa.out⟩, ⟨by (with_reducible repeat (first | apply Kd.V_alloc | apply Kd.V_drewN | apply Kd.V_drew)); exact ad.out⟩, ⟨by (with_reducible repeat (first | apply Kd.V_alloc | apply Kd.V_drewN | apply Kd.V_drew)); exact ay.out⟩, ⟨by (with_reducible repeat (first | refine blk_drewN ?_ _ | refine blk_drew ?_ | refine blk_alloc ?_ _)); exact ac.out⟩, ⟨by (with_reducible repeat (first | refine blk_drewN ?_ _ | refine blk_drew ?_ | refine blk_alloc ?_ _)); exact ab.out⟩, ⟨by (with_reducible repeat (first | refine blk_drewN ?_ _ | refine blk_drew ?_ | refine blk_alloc ?_ _)); exact af.out⟩, ⟨by (with_reducible repeat (first | refine blk_drewN ?_ _ | refine blk_drew ?_ | refine blk_alloc ?_ _)); exact av.out⟩, ⟨by repeat (first | (with_reducible first | exact HB.out | apply below_alloc | apply pw_below_drewN | apply below_drew1 | refine below_set ?_ an.out | refine below_set ?_ ao.out | refine below_set ?_ au.out | refine below_set ?_ a8.out) | exact HB.out)⟩⟩
              ·rw [if_neg bX] at H
               have dv : decide (0 ≤ bo) = false := decide_eq_false bX
               clear bX
               have H' := Aside0.mk H
               clear H
               have iv := aH.out
               have iw := aJ.out
               have ix := aK.out
               have iy := aR.out
               have iz := a6.out
               have iA := ba.out
               have dX : bd.cell? ⟨ah, 0, none⟩ = some (.slice ap ae.length am) := (blk_cell ac.out 0).trans rfl
               have dY := blk_frozen ac.out 0
               have iB := aD.out
               have iC := aU.out
               have iD := a7.out
               have iE := bb.out
               have dZ : bd.cell? ⟨ag, 0, none⟩ = some (.string ai) := (blk_cell ab.out 0).trans rfl
               have d0 : bd.cell? ⟨ag, 1, none⟩ = some (.string aj) := (blk_cell ab.out 1).trans rfl
               have d1 := blk_frozen ab.out 0
               have d2 := blk_frozen ab.out 1
               go_wp2_with (first | ((with_reducible refine gate_callee (f := 23) rfl ?_); refine goesL_ (some 176) rfl rfl Tryd.func23 (by kernel_rfl) rfl #[.agg #[.slice ap ae.length am], .agg #[.string ai, .string aj]] rfl (by (try simp only [List.map_toArray, List.map_cons, List.map_nil]); first | done | rfl | (simp only [List.length_drop, List.length_take]; rfl)) ?_; (with_reducible refine (graftwoodref10_Place.calls kj77 _ _ ae ai aj bi _ ?side1 ?side2 bP.out).mono ?_); (case side1 => repeat (first | exact (Kd.R_reads' aa.out).2.2 | (with_reducible refine Kd.C_alloc ?_ _) | (with_reducible refine Kd.C_drewN ?_ _) | (with_reducible refine Kd.C_drew ?_))); (case side2 => exact (Kd.R_reads' aa.out).2.1); rintro e e2 ⟨rfl, hb⟩; refine ⟨_, rfl, ?_⟩; have n0_ := Aside0.mk (Kd.R_below (by (with_reducible repeat (first | apply Kd.R_alloc | apply Kd.R_drewN | apply Kd.R_drew)); exact aa.out) hb); have n1_ := Aside0.mk (Kd.V_below (by (with_reducible repeat (first | apply Kd.V_alloc | apply Kd.V_drewN | apply Kd.V_drew)); exact ad.out) hb); have n2_ := Aside0.mk (Kd.V_below (by (with_reducible repeat (first | apply Kd.V_alloc | apply Kd.V_drewN | apply Kd.V_drew)); exact ay.out) hb); have n3_ := Aside0.mk (blk_below (g := ah) (o := .cells #[.slice ap ae.length am] 24 (0, 0)) (by (with_reducible repeat (first | refine blk_drewN ?_ _ | refine blk_drew ?_ | refine blk_alloc ?_ _)); exact ac.out) hb); have n4_ := Aside0.mk (blk_below (g := ag) (o := .cells #[.string ai, .string aj] 34 (0, 0)) (by (with_reducible repeat (first | refine blk_drewN ?_ _ | refine blk_drew ?_ | refine blk_alloc ?_ _)); exact ab.out) hb); have n5_ := Aside0.mk (blk_below (g := al) (o := .cells #[.slice aY ak.length aZ] 24 (0, 0)) (by (with_reducible repeat (first | refine blk_drewN ?_ _ | refine blk_drew ?_ | refine blk_alloc ?_ _)); exact af.out) hb); have n6_ := Aside0.mk (blk_below (g := aI) (o := .cells #[.slice a9 aN.length a_] 24 (0, 0)) (by (with_reducible repeat (first | refine blk_drewN ?_ _ | refine blk_drew ?_ | refine blk_alloc ?_ _)); exact av.out) hb); have n7_ := Aside0.mk (below_step (by repeat (first | (with_reducible first | exact HB.out | apply below_alloc | apply pw_below_drewN | apply below_drew1 | refine below_set ?_ an.out | refine below_set ?_ ao.out | refine below_set ?_ au.out | refine below_set ?_ a8.out) | exact HB.out)) hb); clear aa; clear ad; clear ay; clear ac; clear ab; clear af; clear av; clear HB; have aa := n0_; have ad := n1_; have ay := n2_; have ac := n3_; have ab := n4_; have af := n5_; have av := n6_; have HB := n7_; clear n0_ n1_ n2_ n3_ n4_ n5_ n6_ n7_; (try clear hb); (try clear hb2); (try clear hk); (try clear hi); have d3 : e2.cell? ⟨ah, 0, none⟩ = some (.slice ap ae.length am) := (blk_cell ac.out 0).trans rfl; have d4 := blk_frozen ac.out 0; have d5 : e2.cell? ⟨ag, 0, none⟩ = some (.string ai) := (blk_cell ab.out 0).trans rfl; have d6 : e2.cell? ⟨ag, 1, none⟩ = some (.string aj) := (blk_cell ab.out 1).trans rfl; have d7 := blk_frozen ab.out 0; have d8 := blk_frozen ab.out 1) | (go_at_call 23; (with_reducible refine (graftwoodref10_Place.calls kj77 _ _ ae ai aj bo _ ?side1 ?side2 eZ.out).mono ?_); (case side1 => repeat (first | exact (Kd.R_reads' aa.out).2.2 | (with_reducible refine Kd.C_alloc ?_ _) | (with_reducible refine Kd.C_drewN ?_ _) | (with_reducible refine Kd.C_drew ?_))); (case side2 => exact (Kd.R_reads' aa.out).2.1); rintro e jY ⟨rfl, hb⟩; have n0_ := Aside0.mk (Kd.R_below (by (with_reducible repeat (first | apply Kd.R_alloc | apply Kd.R_drewN | apply Kd.R_drew)); exact aa.out) hb); have n1_ := Aside0.mk (Kd.V_below (by (with_reducible repeat (first | apply Kd.V_alloc | apply Kd.V_drewN | apply Kd.V_drew)); exact ad.out) hb); have n2_ := Aside0.mk (Kd.V_below (by (with_reducible repeat (first | apply Kd.V_alloc | apply Kd.V_drewN | apply Kd.V_drew)); exact ay.out) hb); have n3_ := Aside0.mk (blk_below (g := ah) (o := .cells #[.slice ap ae.length am] 24 (0, 0)) (by (with_reducible repeat (first | refine blk_drewN ?_ _ | refine blk_drew ?_ | refine blk_alloc ?_ _)); exact ac.out) hb); have n4_ := Aside0.mk (blk_below (g := ag) (o := .cells #[.string ai, .string aj] 34 (0, 0)) (by (with_reducible repeat (first | refine blk_drewN ?_ _ | refine blk_drew ?_ | refine blk_alloc ?_ _)); exact ab.out) hb); have n5_ := Aside0.mk (blk_below (g := al) (o := .cells #[.slice aY ak.length aZ] 24 (0, 0)) (by (with_reducible repeat (first | refine blk_drewN ?_ _ | refine blk_drew ?_ | refine blk_alloc ?_ _)); exact af.out) hb); have n6_ := Aside0.mk (blk_below (g := aI) (o := .cells #[.slice a9 aN.length a_] 24 (0, 0)) (by (with_reducible repeat (first | refine blk_drewN ?_ _ | refine blk_drew ?_ | refine blk_alloc ?_ _)); exact av.out) hb); have n7_ := Aside0.mk (below_step (by repeat (first | (with_reducible first | exact HB.out | apply below_alloc | apply pw_below_drewN | apply below_drew1 | refine below_set ?_ an.out | refine below_set ?_ ao.out | refine below_set ?_ au.out | refine below_set ?_ a8.out) | exact HB.out)) hb); clear aa; clear ad; clear ay; clear ac; clear ab; clear af; clear av; clear HB; have aa := n0_; have ad := n1_; have ay := n2_; have ac := n3_; have ab := n4_; have af := n5_; have av := n6_; have HB := n7_; clear n0_ n1_ n2_ n3_ n4_ n5_ n6_ n7_; (try clear hb); (try clear hb2); (try clear hk); (try clear hi)))
               go_meet
               case rel => exact ⟨_, (false), (by first | rfl | (simp; done) | (simp [*]; done)), H', ⟨by have := HJ5.out; have := HK2.out; have := bO.out; first | omega | exact Nat.le_refl _⟩, ⟨by (with_reducible repeat (first | apply Kd.R_alloc | apply Kd.R_drewN | apply Kd.R_drew)); exact aa.out⟩, ⟨by (with_reducible repeat (first | apply Kd.V_alloc | apply Kd.V_drewN | apply Kd.V_drew)); exact ad.out⟩, ⟨by (with_reducible repeat (first | apply Kd.V_alloc | apply Kd.V_drewN | apply Kd.V_drew)); exact ay.out⟩, ⟨by (with_reducible repeat (first | refine blk_drewN ?_ _ | refine blk_drew ?_ | refine blk_alloc ?_ _)); exact ac.out⟩, ⟨by (with_reducible repeat (first | refine blk_drewN ?_ _ | refine blk_drew ?_ | refine blk_alloc ?_ _)); exact ab.out⟩, ⟨by (with_reducible repeat (first | refine blk_drewN ?_ _ | refine blk_drew ?_ | refine blk_alloc ?_ _)); exact af.out⟩, ⟨by (with_reducible repeat (first | refine blk_drewN ?_ _ | refine blk_drew ?_ | refine blk_alloc ?_ _)); exact av.out⟩, ⟨by repeat (first | (with_reducible first | exact HB.out | apply below_alloc | apply pw_below_drewN | apply below_drew1 | refine below_set ?_ an.out | refine below_set ?_ ao.out | refine below_set ?_ au.out | refine below_set ?_ a8.out) | exact HB.out)⟩⟩
            case rest =>
             clear eU
             try clear c1
             try clear c2
             try clear p2
             try clear p4
             try clear q4
             try clear hx4
             try clear c6
             try clear p6
             try clear c7
             try clear c8
             try clear c9
             try clear c10
             try clear c11
             try clear c12
             try clear c13
             try clear c14
             try clear c15
             try clear c16
             try clear c17
             try clear c18
             try clear c19
             try clear c23
             try clear p43
             try clear q43
             try clear g1
             try clear p64
             try clear c66
             try clear ce
             try clear c67
             try clear c70
             try clear cf
             try clear c72
             try clear eF
             try clear c73
             try clear eG
             try clear c74
             try clear c79
             try clear c80
             try clear bG
             try clear cg
             try clear c82
             try clear ch
             try clear ci
             try clear c86
             try clear c91
             try clear c93
             try clear c96
             try clear c97
             try clear jZ
             try clear j1
             try clear j4
             try clear j5
             try clear bV
             try clear bw
             try clear bQ
             try clear cr
             try clear ct
             try clear bR
             try clear cu
             try clear cv
             try clear bW
             try clear cw
             try clear bS
             try clear cx
             try clear cy
             try clear j6
             try clear j7
             try clear j8
             try clear j9
             try clear j_
             try clear ka
             try clear kb
             try clear kc
             try clear kd
             try clear ke
             try clear kf
             try clear kg
             try clear kh
             try clear ki
             try clear kj
             try clear kk
             try clear kl
             try clear km
             try clear kn
             try clear ko
             try clear kp
             try clear kr
             try clear ks
             try clear kt
             try clear ku
             try clear bX
             try clear dv
             try clear bT
             try clear dw
             try clear dx
             try clear kv
             try clear kw
             try clear kx
             try clear ky
             try clear kz
             try clear kA
             try clear kB
             try clear kC
             try clear kD
             try clear kE
             try clear kF
             try clear kG
             try clear kH
             try clear kI
             try clear kJ
             try clear cj
             try clear cl
             try clear cm
             try clear cp
             try clear cz
             try clear cB
             try clear cC
             try clear cF
             try clear cH
             try clear cI
             try clear cL
             try clear cN
             try clear cO
             try clear cR
             try clear cT
             try clear cU
             try clear cX
             try clear cZ
             try clear c0
             try clear db
             try clear dd
             try clear de
             try clear dh
             try clear dj
             try clear dk
             try clear dn
             try clear dq
             try clear dr
             try clear dy
             try clear dA
             try clear dB
             try clear dE
             try clear dG
             try clear dH
             try clear dK
             try clear dM
             try clear dN
             try clear dR
             try clear dT
             try clear dU
             try clear dX
             try clear dZ
             try clear d0
             try clear d3
             try clear d5
             try clear d6
             try clear es
             try clear et
             try clear ck
             try clear cn
             try clear co
             try clear cq
             try clear cA
             try clear cD
             try clear cE
             try clear cG
             try clear cJ
             try clear cK
             try clear cM
             try clear cP
             try clear cQ
             try clear cS
             try clear cV
             try clear cW
             try clear cY
             try clear c_
             try clear da
             try clear dc
             try clear df
             try clear dg
             try clear di
             try clear dl
             try clear dm
             try clear dp
             try clear dt
             try clear du
             try clear dz
             try clear dC
             try clear dD
             try clear dF
             try clear dI
             try clear dJ
             try clear dL
             try clear dP
             try clear dQ
             try clear dS
             try clear dV
             try clear dW
             try clear dY
             try clear d1
             try clear d2
             try clear d4
             try clear d7
             try clear d8
             try clear eu
             try clear ev
             try clear bg
             try clear bp
             try clear bA
             try clear bB
             try clear bC
             try clear p2
             try clear p4
             try clear p43
             try clear p434
             try clear p435
             try clear p436
             try clear p437
             try clear p6
             try clear p64
             try clear q4
             try clear q43
             try clear q434
             try clear q435
             try clear q436
             try clear q437
             obtain ⟨kq, bE, rfl, HA, kK, aa, ad, bf, ac, ab, af, av, HB⟩ := hcut
             cases kq with
             | zero => exact absurd HA.out (by simp [IIT.j3])
             | succ kj94 =>
              have H := HA.out
              clear HA
              simp only [IIT.j3] at H
              by_cases ew : bE = true
              ·subst ew
               have H1 : (some false) = some r := by rw [if_pos rfl] at H; exact H
               clear H
               have H := H1
               clear H1
               exact absurd ((Option.some.inj H).trans hR_) (by decide)
              ·replace ew := Bool.eq_false_iff.mpr ew
               subst ew
               have H1 : (if ax = a4 then ((graftwoodlaw10_same.f kj94 ak aN).bind fun cb => (if cb = true then (if ar = 0 then ((graftwoodlaw10_awake.f kj94).bind fun bI => (some bI)) else (some false)) else (some false))) else (some false)) = some r := by rw [if_neg (show ¬ (false = true) by decide)] at H; exact H
               clear H
               have H := H1
               clear H1
               by_cases bZ : ax = a4
               ·rw [if_pos bZ] at H
                have e3 : (ax == a4) = true := beq_iff_eq.mpr bZ
                have e4 : (ax != a4) = false := bne_eq_false_iff_eq.mpr bZ
                clear bZ
                replace H := Option.bind_eq_some_iff.mp H
                obtain ⟨cb, eK, H⟩ := H
                replace H : (if cb = true then (if ar = 0 then ((graftwoodlaw10_awake.f kj94).bind fun bI => (some bI)) else (some false)) else (some false)) = some r := H
                have iG := Aside0.mk eK
                clear eK
                by_cases ex : cb = true
                ·subst ex
                 have H1 : (if ar = 0 then ((graftwoodlaw10_awake.f kj94).bind fun bI => (some bI)) else (some false)) = some r := by rw [if_pos rfl] at H; exact H
                 clear H
                 have H := H1
                 clear H1
                 by_cases b0 : ar = 0
                 ·rw [if_pos b0] at H
                  have e5 : (ar == 0) = true := beq_iff_eq.mpr b0
                  have e6 : (ar != 0) = false := bne_eq_false_iff_eq.mpr b0
                  clear b0
                  replace H := Option.bind_eq_some_iff.mp H
                  obtain ⟨bI, eL, H⟩ := H
                  replace H : (some bI) = some r := H
                  have iH := Aside0.mk eL
                  clear eL
                  obtain rfl := Option.some.inj H
                  have iI := aR.out
                  have iJ := aK.out
                  have iK := aU.out
                  have iL := aD.out
                  have iM := bv.out
                  have iO := bL.out
                  have fK : wc.cell? ⟨al, 0, none⟩ = some (.slice aY ak.length aZ) := (blk_cell af.out 0).trans rfl
                  have fL := blk_frozen af.out 0
                  have iP := ba.out
                  have iQ := a6.out
                  have iR := bb.out
                  have iT := a7.out
                  have fM : wc.cell? ⟨aI, 0, none⟩ = some (.slice a9 aN.length a_) := (blk_cell av.out 0).trans rfl
                  have fN := blk_frozen av.out 0
                  go_wp2_with (first | (go_at_call 13; (with_reducible refine (graftwoodlaw10_same.calls kj94 _ _ ak _ _ aN true _ ?side1 ?side2 ?side3 ?side4 iG.out).mono ?_); (case side1 => repeat (first | exact (Kd.V_reads' ad.out).2.2 | (with_reducible refine Kd.C_alloc ?_ _) | (with_reducible refine Kd.C_drewN ?_ _) | (with_reducible refine Kd.C_drew ?_))); (case side2 => exact (Kd.V_reads' ad.out).2.1); (case side3 => repeat (first | exact (Kd.V_reads' bf.out).2.2 | (with_reducible refine Kd.C_alloc ?_ _) | (with_reducible refine Kd.C_drewN ?_ _) | (with_reducible refine Kd.C_drew ?_))); (case side4 => exact (Kd.V_reads' bf.out).2.1); rintro e kL ⟨rfl, hb⟩; have n0_ := Aside0.mk (Kd.R_below (by (with_reducible repeat (first | apply Kd.R_alloc | apply Kd.R_drewN | apply Kd.R_drew)); exact aa.out) hb); have n1_ := Aside0.mk (Kd.V_below (by (with_reducible repeat (first | apply Kd.V_alloc | apply Kd.V_drewN | apply Kd.V_drew)); exact ad.out) hb); have n2_ := Aside0.mk (Kd.V_below (by (with_reducible repeat (first | apply Kd.V_alloc | apply Kd.V_drewN | apply Kd.V_drew)); exact bf.out) hb); have n3_ := Aside0.mk (blk_below (g := ah) (o := .cells #[.slice ap ae.length am] 24 (0, 0)) (by (with_reducible repeat (first | refine blk_drewN ?_ _ | refine blk_drew ?_ | refine blk_alloc ?_ _)); exact ac.out) hb); have n4_ := Aside0.mk (blk_below (g := ag) (o := .cells #[.string ai, .string aj] 34 (0, 0)) (by (with_reducible repeat (first | refine blk_drewN ?_ _ | refine blk_drew ?_ | refine blk_alloc ?_ _)); exact ab.out) hb); have n5_ := Aside0.mk (blk_below (g := al) (o := .cells #[.slice aY ak.length aZ] 24 (0, 0)) (by (with_reducible repeat (first | refine blk_drewN ?_ _ | refine blk_drew ?_ | refine blk_alloc ?_ _)); exact af.out) hb); have n6_ := Aside0.mk (blk_below (g := aI) (o := .cells #[.slice a9 aN.length a_] 24 (0, 0)) (by (with_reducible repeat (first | refine blk_drewN ?_ _ | refine blk_drew ?_ | refine blk_alloc ?_ _)); exact av.out) hb); have n7_ := Aside0.mk (below_step (by repeat (first | (with_reducible first | exact HB.out | apply below_alloc | apply pw_below_drewN | apply below_drew1 | refine below_set ?_ an.out | refine below_set ?_ ao.out | refine below_set ?_ au.out | refine below_set ?_ a8.out) | exact HB.out)) hb); clear aa; clear ad; clear bf; clear ac; clear ab; clear af; clear av; clear HB; have aa := n0_; have ad := n1_; have bf := n2_; have ac := n3_; have ab := n4_; have af := n5_; have av := n6_; have HB := n7_; clear n0_ n1_ n2_ n3_ n4_ n5_ n6_ n7_; (try clear hb); (try clear hb2); (try clear hk); (try clear hi)) | (go_at_call 14; (with_reducible refine (graftwoodlaw10_awake.calls kj94  bI _ iH.out).mono ?_); rintro e kM ⟨rfl, hb⟩; have n0_ := Aside0.mk (Kd.R_below (by (with_reducible repeat (first | apply Kd.R_alloc | apply Kd.R_drewN | apply Kd.R_drew)); exact aa.out) hb); have n1_ := Aside0.mk (Kd.V_below (by (with_reducible repeat (first | apply Kd.V_alloc | apply Kd.V_drewN | apply Kd.V_drew)); exact ad.out) hb); have n2_ := Aside0.mk (Kd.V_below (by (with_reducible repeat (first | apply Kd.V_alloc | apply Kd.V_drewN | apply Kd.V_drew)); exact bf.out) hb); have n3_ := Aside0.mk (blk_below (g := ah) (o := .cells #[.slice ap ae.length am] 24 (0, 0)) (by (with_reducible repeat (first | refine blk_drewN ?_ _ | refine blk_drew ?_ | refine blk_alloc ?_ _)); exact ac.out) hb); have n4_ := Aside0.mk (blk_below (g := ag) (o := .cells #[.string ai, .string aj] 34 (0, 0)) (by (with_reducible repeat (first | refine blk_drewN ?_ _ | refine blk_drew ?_ | refine blk_alloc ?_ _)); exact ab.out) hb); have n5_ := Aside0.mk (blk_below (g := al) (o := .cells #[.slice aY ak.length aZ] 24 (0, 0)) (by (with_reducible repeat (first | refine blk_drewN ?_ _ | refine blk_drew ?_ | refine blk_alloc ?_ _)); exact af.out) hb); have n6_ := Aside0.mk (blk_below (g := aI) (o := .cells #[.slice a9 aN.length a_] 24 (0, 0)) (by (with_reducible repeat (first | refine blk_drewN ?_ _ | refine blk_drew ?_ | refine blk_alloc ?_ _)); exact av.out) hb); have n7_ := Aside0.mk (below_step (by repeat (first | (with_reducible first | exact HB.out | apply below_alloc | apply pw_below_drewN | apply below_drew1 | refine below_set ?_ an.out | refine below_set ?_ ao.out | refine below_set ?_ au.out | refine below_set ?_ a8.out) | exact HB.out)) hb); clear aa; clear ad; clear bf; clear ac; clear ab; clear af; clear av; clear HB; have aa := n0_; have ad := n1_; have bf := n2_; have ac := n3_; have ab := n4_; have af := n5_; have av := n6_; have HB := n7_; clear n0_ n1_ n2_ n3_ n4_ n5_ n6_ n7_; (try clear hb); (try clear hb2); (try clear hk); (try clear hi)))
                  go_ret
                  exact ⟨by first | rfl | (simp [errW_none, errW_some] <;> rfl) | (simp [*, errW_none, errW_some] <;> rfl), by repeat (first | (with_reducible first | exact HB.out | apply below_alloc | apply pw_below_drewN | apply below_drew1 | refine below_set ?_ an.out | refine below_set ?_ ao.out | refine below_set ?_ au.out | refine below_set ?_ a8.out) | exact HB.out)⟩
                 ·rw [if_neg b0] at H
                  have e5 : (ar == 0) = false := beq_eq_false_iff_ne.mpr b0
                  have e6 : (ar != 0) = true := bne_iff_ne.mpr b0
                  exact absurd ((Option.some.inj H).trans hR_) (by decide)
                ·replace ex := Bool.eq_false_iff.mpr ex
                 subst ex
                 have H1 : (some false) = some r := by rw [if_neg (show ¬ (false = true) by decide)] at H; exact H
                 clear H
                 have H := H1
                 clear H1
                 exact absurd ((Option.some.inj H).trans hR_) (by decide)
               ·rw [if_neg bZ] at H
                have e3 : (ax == a4) = false := beq_eq_false_iff_ne.mpr bZ
                have e4 : (ax != a4) = true := bne_iff_ne.mpr bZ
                exact absurd ((Option.some.inj H).trans hR_) (by decide)
           ·replace c93 := Bool.eq_false_iff.mpr c93
            subst c93
            have H1 : (if aA = 0 then (if aE = 1 then (if ax = 0 then ((graftwoodlaw10_same.f kj77 ak ae).bind fun bH => (if bH = true then (if ar = 1 then ((graftwoodlaw10_awake.f kj77).bind fun bt => (some bt)) else (some false)) else (some false))) else (some false)) else (some false)) else (some false)) = some r := by rw [if_neg (show ¬ (false = true) by decide)] at H; exact H
            clear H
            have H := H1
            clear H1
            by_cases b1 : aA = 0
            ·rw [if_pos b1] at H
             have e7 : (aA == 0) = true := beq_iff_eq.mpr b1
             have e8 : (aA != 0) = false := bne_eq_false_iff_eq.mpr b1
             clear b1
             by_cases b2 : aE = 1
             ·rw [if_pos b2] at H
              have e9 : (aE == 1) = true := beq_iff_eq.mpr b2
              have e_ : (aE != 1) = false := bne_eq_false_iff_eq.mpr b2
              clear b2
              by_cases b3 : ax = 0
              ·rw [if_pos b3] at H
               have fa : (ax == 0) = true := beq_iff_eq.mpr b3
               have fb : (ax != 0) = false := bne_eq_false_iff_eq.mpr b3
               clear b3
               replace H := Option.bind_eq_some_iff.mp H
               obtain ⟨bH, eM, H⟩ := H
               replace H : (if bH = true then (if ar = 1 then ((graftwoodlaw10_awake.f kj77).bind fun bt => (some bt)) else (some false)) else (some false)) = some r := H
               have iU := Aside0.mk eM
               clear eM
               by_cases ey : bH = true
               ·subst ey
                have H1 : (if ar = 1 then ((graftwoodlaw10_awake.f kj77).bind fun bt => (some bt)) else (some false)) = some r := by rw [if_pos rfl] at H; exact H
                clear H
                have H := H1
                clear H1
                by_cases b4 : ar = 1
                ·rw [if_pos b4] at H
                 have fc : (ar == 1) = true := beq_iff_eq.mpr b4
                 have fd : (ar != 1) = false := bne_eq_false_iff_eq.mpr b4
                 clear b4
                 replace H := Option.bind_eq_some_iff.mp H
                 obtain ⟨bt, eN, H⟩ := H
                 replace H : (some bt) = some r := H
                 have d_ := Aside0.mk eN
                 clear eN
                 obtain rfl := Option.some.inj H
                 have iV := aJ.out
                 have iW := aH.out
                 have iX := aD.out
                 have iY := aU.out
                 have fO : wc.cell? ⟨ag, 0, none⟩ = some (.string ai) := (blk_cell ab.out 0).trans rfl
                 have fP : wc.cell? ⟨ag, 1, none⟩ = some (.string aj) := (blk_cell ab.out 1).trans rfl
                 have fQ := blk_frozen ab.out 0
                 have fR := blk_frozen ab.out 1
                 go_wp2_with (first | ((with_reducible refine gate_callee (f := 12) rfl ?_); refine goesL_ (some 144) rfl rfl Tryd.func12 (by kernel_rfl) rfl #[.agg #[.string ai, .string aj]] rfl (by (try simp only [List.map_toArray, List.map_cons, List.map_nil]); first | done | rfl | (simp only [List.length_drop, List.length_take]; rfl)) ?_; (with_reducible refine (graftwoodref05_May.calls kj77 ai aj false _ A92.out).mono ?_); rintro e fS ⟨rfl, hb⟩; refine ⟨_, rfl, ?_⟩; have n0_ := Aside0.mk (Kd.R_below (by (with_reducible repeat (first | apply Kd.R_alloc | apply Kd.R_drewN | apply Kd.R_drew)); exact aa.out) hb); have n1_ := Aside0.mk (Kd.V_below (by (with_reducible repeat (first | apply Kd.V_alloc | apply Kd.V_drewN | apply Kd.V_drew)); exact ad.out) hb); have n2_ := Aside0.mk (blk_below (g := ah) (o := .cells #[.slice ap ae.length am] 24 (0, 0)) (by (with_reducible repeat (first | refine blk_drewN ?_ _ | refine blk_drew ?_ | refine blk_alloc ?_ _)); exact ac.out) hb); have n3_ := Aside0.mk (blk_below (g := ag) (o := .cells #[.string ai, .string aj] 34 (0, 0)) (by (with_reducible repeat (first | refine blk_drewN ?_ _ | refine blk_drew ?_ | refine blk_alloc ?_ _)); exact ab.out) hb); have n4_ := Aside0.mk (blk_below (g := al) (o := .cells #[.slice aY ak.length aZ] 24 (0, 0)) (by (with_reducible repeat (first | refine blk_drewN ?_ _ | refine blk_drew ?_ | refine blk_alloc ?_ _)); exact af.out) hb); have n5_ := Aside0.mk (below_step (by repeat (first | (with_reducible first | exact HB.out | apply below_alloc | apply pw_below_drewN | apply below_drew1 | refine below_set ?_ an.out | refine below_set ?_ ao.out | refine below_set ?_ au.out) | exact HB.out)) hb); clear aa; clear ad; clear ac; clear ab; clear af; clear HB; have aa := n0_; have ad := n1_; have ac := n2_; have ab := n3_; have af := n4_; have HB := n5_; clear n0_ n1_ n2_ n3_ n4_ n5_; (try clear hb); (try clear hb2); (try clear hk); (try clear hi); have iZ := aR.out; have i0 := aK.out; have fT : fS.cell? ⟨al, 0, none⟩ = some (.slice aY ak.length aZ) := (blk_cell af.out 0).trans rfl; have fU := blk_frozen af.out 0; have fV : fS.cell? ⟨ah, 0, none⟩ = some (.slice ap ae.length am) := (blk_cell ac.out 0).trans rfl; have fW := blk_frozen ac.out 0) | (go_at_call 13; (with_reducible refine (graftwoodlaw10_same.calls kj77 _ _ ak _ _ ae true _ ?side1 ?side2 ?side3 ?side4 iU.out).mono ?_); (case side1 => repeat (first | exact (Kd.V_reads' ad.out).2.2 | (with_reducible refine Kd.C_alloc ?_ _) | (with_reducible refine Kd.C_drewN ?_ _) | (with_reducible refine Kd.C_drew ?_))); (case side2 => exact (Kd.V_reads' ad.out).2.1); (case side3 => repeat (first | exact (Kd.R_reads' aa.out).2.2 | (with_reducible refine Kd.C_alloc ?_ _) | (with_reducible refine Kd.C_drewN ?_ _) | (with_reducible refine Kd.C_drew ?_))); (case side4 => exact (Kd.R_reads' aa.out).2.1); rintro e kN ⟨rfl, hb⟩; have n0_ := Aside0.mk (Kd.R_below (by (with_reducible repeat (first | apply Kd.R_alloc | apply Kd.R_drewN | apply Kd.R_drew)); exact aa.out) hb); have n1_ := Aside0.mk (Kd.V_below (by (with_reducible repeat (first | apply Kd.V_alloc | apply Kd.V_drewN | apply Kd.V_drew)); exact ad.out) hb); have n2_ := Aside0.mk (blk_below (g := ah) (o := .cells #[.slice ap ae.length am] 24 (0, 0)) (by (with_reducible repeat (first | refine blk_drewN ?_ _ | refine blk_drew ?_ | refine blk_alloc ?_ _)); exact ac.out) hb); have n3_ := Aside0.mk (blk_below (g := ag) (o := .cells #[.string ai, .string aj] 34 (0, 0)) (by (with_reducible repeat (first | refine blk_drewN ?_ _ | refine blk_drew ?_ | refine blk_alloc ?_ _)); exact ab.out) hb); have n4_ := Aside0.mk (blk_below (g := al) (o := .cells #[.slice aY ak.length aZ] 24 (0, 0)) (by (with_reducible repeat (first | refine blk_drewN ?_ _ | refine blk_drew ?_ | refine blk_alloc ?_ _)); exact af.out) hb); have n5_ := Aside0.mk (below_step (by repeat (first | (with_reducible first | exact HB.out | apply below_alloc | apply pw_below_drewN | apply below_drew1 | refine below_set ?_ an.out | refine below_set ?_ ao.out | refine below_set ?_ au.out) | exact HB.out)) hb); clear aa; clear ad; clear ac; clear ab; clear af; clear HB; have aa := n0_; have ad := n1_; have ac := n2_; have ab := n3_; have af := n4_; have HB := n5_; clear n0_ n1_ n2_ n3_ n4_ n5_; (try clear hb); (try clear hb2); (try clear hk); (try clear hi)) | (go_at_call 14; (with_reducible refine (graftwoodlaw10_awake.calls kj77  bt _ d_.out).mono ?_); rintro e kO ⟨rfl, hb⟩; have n0_ := Aside0.mk (Kd.R_below (by (with_reducible repeat (first | apply Kd.R_alloc | apply Kd.R_drewN | apply Kd.R_drew)); exact aa.out) hb); have n1_ := Aside0.mk (Kd.V_below (by (with_reducible repeat (first | apply Kd.V_alloc | apply Kd.V_drewN | apply Kd.V_drew)); exact ad.out) hb); have n2_ := Aside0.mk (blk_below (g := ah) (o := .cells #[.slice ap ae.length am] 24 (0, 0)) (by (with_reducible repeat (first | refine blk_drewN ?_ _ | refine blk_drew ?_ | refine blk_alloc ?_ _)); exact ac.out) hb); have n3_ := Aside0.mk (blk_below (g := ag) (o := .cells #[.string ai, .string aj] 34 (0, 0)) (by (with_reducible repeat (first | refine blk_drewN ?_ _ | refine blk_drew ?_ | refine blk_alloc ?_ _)); exact ab.out) hb); have n4_ := Aside0.mk (blk_below (g := al) (o := .cells #[.slice aY ak.length aZ] 24 (0, 0)) (by (with_reducible repeat (first | refine blk_drewN ?_ _ | refine blk_drew ?_ | refine blk_alloc ?_ _)); exact af.out) hb); have n5_ := Aside0.mk (below_step (by repeat (first | (with_reducible first | exact HB.out | apply below_alloc | apply pw_below_drewN | apply below_drew1 | refine below_set ?_ an.out | refine below_set ?_ ao.out | refine below_set ?_ au.out) | exact HB.out)) hb); clear aa; clear ad; clear ac; clear ab; clear af; clear HB; have aa := n0_; have ad := n1_; have ac := n2_; have ab := n3_; have af := n4_; have HB := n5_; clear n0_ n1_ n2_ n3_ n4_ n5_; (try clear hb); (try clear hb2); (try clear hk); (try clear hi)))
                 go_ret
                 exact ⟨by first | rfl | (simp [errW_none, errW_some] <;> rfl) | (simp [*, errW_none, errW_some] <;> rfl), by repeat (first | (with_reducible first | exact HB.out | apply below_alloc | apply pw_below_drewN | apply below_drew1 | refine below_set ?_ an.out | refine below_set ?_ ao.out | refine below_set ?_ au.out) | exact HB.out)⟩
                ·rw [if_neg b4] at H
                 have fc : (ar == 1) = false := beq_eq_false_iff_ne.mpr b4
                 have fd : (ar != 1) = true := bne_iff_ne.mpr b4
                 exact absurd ((Option.some.inj H).trans hR_) (by decide)
               ·replace ey := Bool.eq_false_iff.mpr ey
                subst ey
                have H1 : (some false) = some r := by rw [if_neg (show ¬ (false = true) by decide)] at H; exact H
                clear H
                have H := H1
                clear H1
                exact absurd ((Option.some.inj H).trans hR_) (by decide)
              ·rw [if_neg b3] at H
               have fa : (ax == 0) = false := beq_eq_false_iff_ne.mpr b3
               have fb : (ax != 0) = true := bne_iff_ne.mpr b3
               exact absurd ((Option.some.inj H).trans hR_) (by decide)
             ·rw [if_neg b2] at H
              have e9 : (aE == 1) = false := beq_eq_false_iff_ne.mpr b2
              have e_ : (aE != 1) = true := bne_iff_ne.mpr b2
              exact absurd ((Option.some.inj H).trans hR_) (by decide)
            ·rw [if_neg b1] at H
             have e7 : (aA == 0) = false := beq_eq_false_iff_ne.mpr b1
             have e8 : (aA != 0) = true := bne_iff_ne.mpr b1
             exact absurd ((Option.some.inj H).trans hR_) (by decide)
    ·replace c45 := Bool.eq_false_iff.mpr c45
     subst c45
     have H1 : (if aA = 0 then (if aE = 1 then (if ax = 0 then ((graftwoodlaw10_same.f kj5 ak ae).bind fun bq => (if bq = true then (if ar = 1 then (if (bc.length : Int) = 0 then (if be = 1 then ((graftwoodlaw10_awake.f kj5).bind fun bh => (some bh)) else (some false)) else (some false)) else (some false)) else (some false))) else (some false)) else (some false)) else (some false)) = some r := by rw [if_neg (show ¬ (false = true) by decide)] at H; exact H
     clear H
     have H := H1
     clear H1
     by_cases b5 : aA = 0
     ·as_aux_lemma =>
      rw [if_pos b5] at H
      have fe : (aA == 0) = true := beq_iff_eq.mpr b5
      have ff : (aA != 0) = false := bne_eq_false_iff_eq.mpr b5
      clear b5
      by_cases b6 : aE = 1
      ·as_aux_lemma =>
       rw [if_pos b6] at H
       have fg : (aE == 1) = true := beq_iff_eq.mpr b6
       have fh : (aE != 1) = false := bne_eq_false_iff_eq.mpr b6
       clear b6
       by_cases b7 : ax = 0
       ·as_aux_lemma =>
        rw [if_pos b7] at H
        have fi : (ax == 0) = true := beq_iff_eq.mpr b7
        have fj : (ax != 0) = false := bne_eq_false_iff_eq.mpr b7
        clear b7
        replace H := Option.bind_eq_some_iff.mp H
        obtain ⟨bq, eO, H⟩ := H
        replace H : (if bq = true then (if ar = 1 then (if (bc.length : Int) = 0 then (if be = 1 then ((graftwoodlaw10_awake.f kj5).bind fun bh => (some bh)) else (some false)) else (some false)) else (some false)) else (some false)) = some r := H
        have i1 := Aside0.mk eO
        clear eO
        by_cases ez : bq = true
        ·subst ez
         have H1 : (if ar = 1 then (if (bc.length : Int) = 0 then (if be = 1 then ((graftwoodlaw10_awake.f kj5).bind fun bh => (some bh)) else (some false)) else (some false)) else (some false)) = some r := by rw [if_pos rfl] at H; exact H
         clear H
         have H := H1
         clear H1
         by_cases b8 : ar = 1
         ·as_aux_lemma =>
          rw [if_pos b8] at H
          have fk : (ar == 1) = true := beq_iff_eq.mpr b8
          have fl : (ar != 1) = false := bne_eq_false_iff_eq.mpr b8
          clear b8
          by_cases bU : (bc.length : Int) = 0
          ·as_aux_lemma =>
           rw [if_pos bU] at H
           have fm : ((bc.length : Int) == 0) = true := beq_iff_eq.mpr bU
           have fn : ((bc.length : Int) != 0) = false := bne_eq_false_iff_eq.mpr bU
           clear bU
           by_cases b9 : be = 1
           ·as_aux_lemma =>
            rw [if_pos b9] at H
            have fo : (be == 1) = true := beq_iff_eq.mpr b9
            have fp : (be != 1) = false := bne_eq_false_iff_eq.mpr b9
            clear b9
            replace H := Option.bind_eq_some_iff.mp H
            obtain ⟨bh, eP, H⟩ := H
            replace H : (some bh) = some r := H
            have i2 := Aside0.mk eP
            clear eP
            obtain rfl := Option.some.inj H
            have i3 := aH.out
            have i4 := aJ.out
            have fX : wc.cell? ⟨ah, 0, none⟩ = some (.slice ap ae.length am) := (blk_cell ac.out 0).trans rfl
            have fY := blk_frozen ac.out 0
            have fZ : wc.cell? ⟨ag, 0, none⟩ = some (.string ai) := (blk_cell ab.out 0).trans rfl
            have f2 : wc.cell? ⟨ag, 1, none⟩ = some (.string aj) := (blk_cell ab.out 1).trans rfl
            have f3 := blk_frozen ab.out 0
            have f4 := blk_frozen ab.out 1
            try go_wp2_with (first | ((with_reducible refine gate_callee (f := 21) rfl ?_); refine goesL_ (some 31) rfl rfl Tryd.func21 (by kernel_rfl) rfl #[.agg #[.slice ap ae.length am], .agg #[.string ai, .string aj]] rfl (by (try simp only [List.map_toArray, List.map_cons, List.map_nil]); first | done | rfl | (simp only [List.length_drop, List.length_take]; rfl)) ?_; (with_reducible refine (intern_Find.calls kj5 _ _ ae ai aj aA aE _ ?side1 ?side2 A20.out).mono ?_); (case side1 => repeat (first | exact (Kd.R_reads' aa.out).2.2 | (with_reducible refine Kd.C_alloc ?_ _) | (with_reducible refine Kd.C_drewN ?_ _) | (with_reducible refine Kd.C_drew ?_))); (case side2 => exact (Kd.R_reads' aa.out).2.1); rintro e fq ⟨rfl, hb⟩; refine ⟨_, rfl, ?_⟩; have n0_ := Aside0.mk (Kd.V_below (by (with_reducible repeat (first | apply Kd.V_alloc | apply Kd.V_drewN | apply Kd.V_drew)); exact aw.out) hb); have n1_ := Aside0.mk (Kd.R_below (by (with_reducible repeat (first | apply Kd.R_alloc | apply Kd.R_drewN | apply Kd.R_drew)); exact aa.out) hb); have n2_ := Aside0.mk (blk_below (g := ah) (o := .cells #[.slice ap ae.length am] 24 (0, 0)) (by (with_reducible repeat (first | refine blk_drewN ?_ _ | refine blk_drew ?_ | refine blk_alloc ?_ _)); exact ac.out) hb); have n3_ := Aside0.mk (blk_below (g := ag) (o := .cells #[.string ai, .string aj] 34 (0, 0)) (by (with_reducible repeat (first | refine blk_drewN ?_ _ | refine blk_drew ?_ | refine blk_alloc ?_ _)); exact ab.out) hb); have n4_ := Aside0.mk (below_step (by repeat (first | (with_reducible first | exact HB.out | apply below_alloc | apply pw_below_drewN | apply below_drew1 | refine below_set ?_ an.out | refine below_set ?_ ao.out) | exact HB.out)) hb); clear aw; clear aa; clear ac; clear ab; clear HB; have aw := n0_; have aa := n1_; have ac := n2_; have ab := n3_; have HB := n4_; clear n0_ n1_ n2_ n3_ n4_; (try clear hb); (try clear hb2); (try clear hk); (try clear hi); have f5 : fq.cell? ⟨ah, 0, none⟩ = some (.slice ap ae.length am) := (blk_cell ac.out 0).trans rfl; have f7 := blk_frozen ac.out 0; have f8 : fq.cell? ⟨ag, 0, none⟩ = some (.string ai) := (blk_cell ab.out 0).trans rfl; have f9 : fq.cell? ⟨ag, 1, none⟩ = some (.string aj) := (blk_cell ab.out 1).trans rfl; have f_ := blk_frozen ab.out 0; have ga := blk_frozen ab.out 1) | ((with_reducible refine gate_callee (f := 22) rfl ?_); refine goesL_ (some 37) rfl rfl Tryd.func22 (by kernel_rfl) rfl #[.agg #[.slice ap ae.length am], .agg #[.string ai, .string aj]] rfl (by (try simp only [List.map_toArray, List.map_cons, List.map_nil]); first | done | rfl | (simp only [List.length_drop, List.length_take]; rfl)) ?_; (with_reducible refine (intern_Id.calls kj5 (fun k_ => some k_ = (.slice ap ae.length am : Value).ownBlock) _ _ ae ai aj ax ak ar _ ?side1 A21.out).mono ?_); (case side1 => exact Kd.R_V (Kd.R_tight rfl (Kd.R_types (aa.out) ac.out (by decide)))); rintro e kP ⟨gQ, rfl, ho0, hb⟩; refine ⟨_, rfl, ?_⟩; have n0_ := Aside0.mk (Kd.V_below (by (with_reducible repeat (first | apply Kd.V_alloc | apply Kd.V_drewN | apply Kd.V_drew)); exact aw.out) hb); have n1_ := Aside0.mk (Kd.R_below (by (with_reducible repeat (first | apply Kd.R_alloc | apply Kd.R_drewN | apply Kd.R_drew)); exact aa.out) hb); have n2_ := Aside0.mk (Kd.V_lower (Kd.V_mono (ok' := fun k_ => (P2_ k_ ∨ w.heap.size ≤ k_) ∧ k_ ≠ ah ∧ k_ ≠ ag) ho0 (fun k_ hk_ => ⟨Or.elim hk_ (fun hs_ => (.inr (((Kd.R_types (aa.out) ac.out (by decide)).1 k_ hs_.symm).1.1))) (fun hn_ => (.inr (Nat.le_trans (below_size (by repeat (first | (with_reducible first | exact HB.out | apply below_alloc | apply pw_below_drewN | apply below_drew1 | refine below_set ?_ an.out | refine below_set ?_ ao.out) | exact HB.out))) hn_))), Or.elim hk_ (fun hs_ => ((Kd.R_types (aa.out) ac.out (by decide)).1 k_ hs_.symm).2) (fun hn_ => (Kd.freshB (g := ah) (o := .cells #[.slice ap ae.length am] 24 (0, 0)) (by (with_reducible repeat (first | refine blk_drewN ?_ _ | refine blk_drew ?_ | refine blk_alloc ?_ _)); exact ac.out) k_ hn_)), Or.elim hk_ (fun hs_ => ((Kd.R_types (aa.out) ac.out (by decide)).1 k_ hs_.symm).1.2) (fun hn_ => (Kd.freshB (g := ag) (o := .cells #[.string ai, .string aj] 34 (0, 0)) (by (with_reducible repeat (first | refine blk_drewN ?_ _ | refine blk_drew ?_ | refine blk_alloc ?_ _)); exact ab.out) k_ hn_))⟩)) (below_size (by repeat (first | (with_reducible first | exact HB.out | apply below_alloc | apply pw_below_drewN | apply below_drew1 | refine below_set ?_ an.out | refine below_set ?_ ao.out) | exact HB.out)))); have n3_ := Aside0.mk (blk_below (g := ah) (o := .cells #[.slice ap ae.length am] 24 (0, 0)) (by (with_reducible repeat (first | refine blk_drewN ?_ _ | refine blk_drew ?_ | refine blk_alloc ?_ _)); exact ac.out) hb); have n4_ := Aside0.mk (blk_below (g := ag) (o := .cells #[.string ai, .string aj] 34 (0, 0)) (by (with_reducible repeat (first | refine blk_drewN ?_ _ | refine blk_drew ?_ | refine blk_alloc ?_ _)); exact ab.out) hb); have n5_ := Aside0.mk (below_step (by repeat (first | (with_reducible first | exact HB.out | apply below_alloc | apply pw_below_drewN | apply below_drew1 | refine below_set ?_ an.out | refine below_set ?_ ao.out) | exact HB.out)) hb); clear aw; clear aa; clear ac; clear ab; clear HB; have aw := n0_; have aa := n1_; have az := n2_; have ac := n3_; have ab := n4_; have HB := n5_; clear n0_ n1_ n2_ n3_ n4_ n5_; (try clear hb); (try clear hb2); (try clear hk); (try clear hi); (try clear ho0)) | ((with_reducible refine gate_dst (N := 10) rfl ?_); (try (refine gate_guard (by rfl) ?_; dsimp only)); refine box_event ?hg (N := 10) ?hd (cs := #[.slice none 0 0]) (t := 24) ?hr ?_; (case hd => rfl); (case hg => rfl); (case hr => first | (go_simp; done) | (go_simp; rfl)); intro al hg gb hbox hb; have n0_ := Aside0.mk (Kd.V_below (Kd.V_elderB (by (with_reducible repeat (first | apply Kd.V_alloc | apply Kd.V_drewN | apply Kd.V_drew)); exact aw.out) al (Nat.le_of_eq hg.symm)) hb); have n1_ := Aside0.mk (Kd.R_below (by (with_reducible repeat (first | apply Kd.R_alloc | apply Kd.R_drewN | apply Kd.R_drew)); exact aa.out) hb); have n2_ := Aside0.mk (Kd.V_below (Kd.V_elderB (by (with_reducible repeat (first | apply Kd.V_alloc | apply Kd.V_drewN | apply Kd.V_drew)); exact az.out) al (Nat.le_of_eq hg.symm)) hb); have n3_ := Aside0.mk (blk_below (g := ah) (o := .cells #[.slice ap ae.length am] 24 (0, 0)) (by (with_reducible repeat (first | refine blk_drewN ?_ _ | refine blk_drew ?_ | refine blk_alloc ?_ _)); exact ac.out) hb); have n4_ := Aside0.mk (blk_below (g := ag) (o := .cells #[.string ai, .string aj] 34 (0, 0)) (by (with_reducible repeat (first | refine blk_drewN ?_ _ | refine blk_drew ?_ | refine blk_alloc ?_ _)); exact ab.out) hb); have n5_ := Aside0.mk (below_step (by repeat (first | (with_reducible first | exact HB.out | apply below_alloc | apply pw_below_drewN | apply below_drew1 | refine below_set ?_ an.out | refine below_set ?_ ao.out) | exact HB.out)) hb); have n6_ := Aside0.mk (hbox); have n7_ := Aside0.mk ((by rw [hg]; exact (below_size (by repeat (first | (with_reducible first | exact HB.out | apply below_alloc | apply pw_below_drewN | apply below_drew1 | refine below_set ?_ an.out | refine below_set ?_ ao.out) | exact HB.out))) : w.heap.size ≤ al)); have n8_ := Aside0.mk ((by rw [hg]; exact (below_size (by repeat (first | (with_reducible first | exact HB.out | apply below_alloc | apply pw_below_drewN | apply below_drew1 | refine below_set ?_ an.out | refine below_set ?_ ao.out) | exact HB.out))) : w.heap.size ≤ al)); have n9_ := Aside0.mk ((by rw [hg]; exact Nat.ne_of_lt (blk_lt (g := ah) (o := .cells #[.slice ap ae.length am] 24 (0, 0)) (by (with_reducible repeat (first | refine blk_drewN ?_ _ | refine blk_drew ?_ | refine blk_alloc ?_ _)); exact ac.out)) : ah ≠ al)); have n10_ := Aside0.mk ((by rw [hg]; exact Nat.ne_of_gt (blk_lt (g := ah) (o := .cells #[.slice ap ae.length am] 24 (0, 0)) (by (with_reducible repeat (first | refine blk_drewN ?_ _ | refine blk_drew ?_ | refine blk_alloc ?_ _)); exact ac.out)) : al ≠ ah)); have n11_ := Aside0.mk ((by rw [hg]; exact Nat.ne_of_lt (blk_lt (g := ag) (o := .cells #[.string ai, .string aj] 34 (0, 0)) (by (with_reducible repeat (first | refine blk_drewN ?_ _ | refine blk_drew ?_ | refine blk_alloc ?_ _)); exact ab.out)) : ag ≠ al)); have n12_ := Aside0.mk ((by rw [hg]; exact Nat.ne_of_gt (blk_lt (g := ag) (o := .cells #[.string ai, .string aj] 34 (0, 0)) (by (with_reducible repeat (first | refine blk_drewN ?_ _ | refine blk_drew ?_ | refine blk_alloc ?_ _)); exact ab.out)) : al ≠ ag)); clear aw; clear aa; clear az; clear ac; clear ab; clear HB; have aw := n0_; have aa := n1_; have az := n2_; have ac := n3_; have ab := n4_; have HB := n5_; have af := n6_; have fA := n7_; have au := n8_; have aK := n9_; have aR := n10_; have aD := n11_; have aU := n12_; clear n0_ n1_ n2_ n3_ n4_ n5_ n6_ n7_ n8_ n9_ n10_ n11_ n12_; clear hb hbox hg; obtain ⟨bl, bm, gc⟩ := Kd.V_slice az.out; subst gc; have i5 := aR.out; have i6 := aK.out; have i7 := aU.out; have i8 := aD.out; have gd : gb.cell? ⟨al, 0, none⟩ = some (.slice none 0 0) := (blk_cell af.out 0).trans rfl; have ge := blk_frozen af.out 0; have gf : gb.cell? ⟨ah, 0, none⟩ = some (.slice ap ae.length am) := (blk_cell ac.out 0).trans rfl; have gg := blk_frozen ac.out 0; obtain ⟨gh, eQ, gi⟩ := Kd.V_slice aw.out; subst gi) | ((with_reducible refine gate_callee (f := 18) rfl ?_); refine goesL_ (some 44) rfl rfl Tryd.func18 (by kernel_rfl) rfl #[.agg #[.slice ap ae.length am], .slice gh aG.length eQ] rfl (by (try simp only [List.map_toArray, List.map_cons, List.map_nil]); first | done | rfl | (simp only [List.length_drop, List.length_take]; rfl)) ?_; (with_reducible refine (intern_At.calls kj5 _ _ ae _ _ aG bc be _ ?side1 ?side2 ?side3 ?side4 A22.out).mono ?_); (case side1 => refine (Kd.R_reads' (e := 34) (base := w.heap.size) (ok := fun k_ => ((w.heap.size ≤ k_) ∧ k_ ≠ ag)) (n := ae.length) (c := am) ?_).2.2; exact (by (with_reducible repeat (first | apply Kd.R_alloc | apply Kd.R_drewN | apply Kd.R_drew)); exact (Kd.R_mono (Kd.R_far (p := ⟨al, 0, none⟩) (Kd.R_types aa.out af.out (by decide)) (fun _ hk => hk.2) (.slice bl ak.length bm)) (fun _ h_ => h_.1)))); (case side2 => exact (Kd.R_reads' aa.out).2.1); (case side3 => refine (Kd.V_reads' (e := 3) (base := w.heap.size) (ok := fun k_ => (((P2_ k_ ∨ w.heap.size ≤ k_) ∧ (some k_ ≠ (.slice ap ae.length am : Value).ownBlock ∧ (k_ ≠ ah ∧ k_ ≠ ag))) ∧ k_ ≠ al)) (n := aG.length) (c := eQ) ?_).2.2; exact (by (with_reducible repeat (first | apply Kd.V_alloc | apply Kd.V_drewN | apply Kd.V_drew)); exact (Kd.V_mono (Kd.V_far (p := ⟨al, 0, none⟩) (Kd.V_mono aw.out (fun k_ hk => (⟨hk, hk.2⟩ : _ ∧ k_ ≠ al))) (fun _ hk => hk.2) (.slice bl ak.length bm)) (fun _ h_ => h_.1)))); (case side4 => exact (Kd.V_reads' aw.out).2.1); rintro e i9 ⟨bJ, rfl, ho0, hb⟩; refine ⟨_, rfl, ?_⟩; have n0_ := Aside0.mk (Kd.V_elder' (by (with_reducible repeat (first | apply Kd.V_alloc | apply Kd.V_drewN | apply Kd.V_drew)); exact (Kd.V_mono (Kd.V_far (p := ⟨al, 0, none⟩) (Kd.V_mono aw.out (fun k_ hk => (⟨hk, hk.2⟩ : _ ∧ k_ ≠ al))) (fun _ hk => hk.2) (.slice bl ak.length bm)) (fun _ h_ => h_.1))) (Kd.R_base ho0) hb); have n1_ := Aside0.mk (Kd.R_elder' (by (with_reducible repeat (first | apply Kd.R_alloc | apply Kd.R_drewN | apply Kd.R_drew)); exact (Kd.R_mono (Kd.R_far (p := ⟨al, 0, none⟩) (Kd.R_types aa.out af.out (by decide)) (fun _ hk => hk.2) (.slice bl ak.length bm)) (fun _ h_ => h_.1))) (Kd.R_base ho0) hb); have n2_ := Aside0.mk (Kd.V_elder' (by (with_reducible repeat (first | apply Kd.V_alloc | apply Kd.V_drewN | apply Kd.V_drew)); exact (Kd.V_mono (Kd.V_far (p := ⟨al, 0, none⟩) (Kd.V_mono az.out (fun k_ hk => (⟨hk, hk.2⟩ : _ ∧ k_ ≠ al))) (fun _ hk => hk.2) (.slice bl ak.length bm)) (fun _ h_ => h_.1))) (Kd.R_base ho0) hb); have n3_ := Aside0.mk (Kd.R_lower (Kd.R_newB (Kd.R_new' (Kd.R_newM (M := fun k_ => (w.heap.size ≤ k_)) ho0 (below_size (by repeat (first | (with_reducible first | exact HB.out | apply below_alloc | apply pw_below_drewN | apply below_drew1 | refine below_set ?_ an.out | refine below_set ?_ ao.out | refine below_set ?_ au.out) | exact HB.out))) (fun k_ h_ => h_)) (Kd.R_lt (by (with_reducible repeat (first | apply Kd.R_alloc | apply Kd.R_drewN | apply Kd.R_drew)); exact (Kd.R_mono (Kd.R_far (p := ⟨al, 0, none⟩) (Kd.R_types aa.out af.out (by decide)) (fun _ hk => hk.2) (.slice bl ak.length bm)) (fun _ h_ => h_.1))))) (g := ag) (o := .cells #[.string ai, .string aj] 34 (0, 0)) (by (with_reducible repeat (first | refine blk_drewN ?_ _ | refine blk_drew ?_ | refine blk_alloc ?_ _)); refine blk_far ?_ aD.out _; (with_reducible repeat (first | refine blk_drewN ?_ _ | refine blk_drew ?_ | refine blk_alloc ?_ _)); exact ab.out)) (below_size (by repeat (first | (with_reducible first | exact HB.out | apply below_alloc | apply pw_below_drewN | apply below_drew1 | refine below_set ?_ an.out | refine below_set ?_ ao.out | refine below_set ?_ au.out) | exact HB.out)))); have n4_ := Aside0.mk (blk_below (g := ah) (o := .cells #[.slice ap ae.length am] 24 (0, 0)) (by (with_reducible repeat (first | refine blk_drewN ?_ _ | refine blk_drew ?_ | refine blk_alloc ?_ _)); refine blk_far ?_ aK.out _; (with_reducible repeat (first | refine blk_drewN ?_ _ | refine blk_drew ?_ | refine blk_alloc ?_ _)); exact ac.out) hb); have n5_ := Aside0.mk (blk_below (g := ag) (o := .cells #[.string ai, .string aj] 34 (0, 0)) (by (with_reducible repeat (first | refine blk_drewN ?_ _ | refine blk_drew ?_ | refine blk_alloc ?_ _)); refine blk_far ?_ aD.out _; (with_reducible repeat (first | refine blk_drewN ?_ _ | refine blk_drew ?_ | refine blk_alloc ?_ _)); exact ab.out) hb); have n6_ := Aside0.mk (blk_below (g := al) (o := .cells #[.slice bl ak.length bm] 24 (0, 0)) (by (with_reducible repeat (first | refine blk_drewN ?_ _ | refine blk_drew ?_ | refine blk_alloc ?_ _)); refine blk_put (cs := #[.slice none 0 0]) ?_ 0 _ rfl; (with_reducible repeat (first | refine blk_drewN ?_ _ | refine blk_drew ?_ | refine blk_alloc ?_ _)); exact af.out) hb); have n7_ := Aside0.mk (below_step (by repeat (first | (with_reducible first | exact HB.out | apply below_alloc | apply pw_below_drewN | apply below_drew1 | refine below_set ?_ an.out | refine below_set ?_ ao.out | refine below_set ?_ au.out) | exact HB.out)) hb); clear aw; clear aa; clear az; clear ac; clear ab; clear af; clear HB; have aw := n0_; have aa := n1_; have az := n2_; have aM := n3_; have ac := n4_; have ab := n5_; have af := n6_; have HB := n7_; clear n0_ n1_ n2_ n3_ n4_ n5_ n6_ n7_; (try clear hb); (try clear hb2); (try clear hk); (try clear hi); (try clear ho0)))
            have n0_ := Aside0.mk (Kd.V_drew aw.out)
            have n1_ := Aside0.mk (Kd.R_drew aa.out)
            have n2_ := Aside0.mk (Kd.V_drew az.out)
            have n3_ := Aside0.mk (Kd.R_drew aM.out)
            have n4_ := Aside0.mk (blk_drew ac.out)
            have n5_ := Aside0.mk (blk_drew ab.out)
            have n6_ := Aside0.mk (blk_drew af.out)
            have n7_ := Aside0.mk (below_drew1 HB.out)
            clear aw aa az aM ac ab af HB
            have aw := n0_
            have aa := n1_
            have az := n2_
            have aM := n3_
            have ac := n4_
            have ab := n5_
            have af := n6_
            have HB := n7_
            clear n0_ n1_ n2_ n3_ n4_ n5_ n6_ n7_
            refine start_ (n := 6) (S := fun w' => w'.cell? ⟨ah, 0, none⟩ = some (.slice ap ae.length am)) (ds := []) #[false, false, false, false, false, false] (by kernel_rfl) rfl rfl ((blk_cell ac.out 0).trans rfl) (fun hHeld => ?_)
            generalize i9.drew = kQ at aw aa az aM ac ab af HB hHeld ⊢
            refine take_ (i := 0) (N := some 47) (v := ?_) (a' := ?_) #[true, false, false, false, false, false] rfl rfl (by kernel_rfl) (fun _ _ _ h => h) (Or.inl ⟨by rfl, ?_⟩) hHeld ?_ ?_
            rotate_left
            ·intro w' s0
             go_simp
             with_reducible rfl
            rotate_left
            ·simp only [Act.put, List.setIfInBounds_toArray, List.set_cons_zero, List.set_cons_succ, i64_w, i32_w]
             rfl
            refine take_ (i := 3) (N := some 50) (v := ?_) (a' := ?_) #[true, false, false, true, false, false] rfl rfl (by kernel_rfl) (fun _ _ _ h => h) (Or.inl ⟨by rfl, ?_⟩) hHeld ?_ ?_
            rotate_left
            ·intro w' s0
             go_simp
             with_reducible rfl
            rotate_left
            ·simp only [Act.put, List.setIfInBounds_toArray, List.set_cons_zero, List.set_cons_succ, i64_w, i32_w]
             rfl
            refine one_ (i := 1) (N := some 48) #[true, true, false, true, false, false] rfl rfl (by kernel_rfl) (by decide) (fun K hK => ?_)
            refine goes_ Tryd.func17 (by kernel_rfl) rfl #[.agg #[.slice ap ae.length am]] (by rfl) rfl rfl (by (try simp only [List.map_toArray, List.map_cons, List.map_nil]); first | done | rfl | (simp only [List.length_drop, List.length_take]; rfl)) ?_
            with_reducible refine (intern_Check.calls kj5 _ _ ae bk _ ?side1 ?side2 A23.out).mono ?_
            (case side1 => repeat (first | exact (Kd.R_reads' aa.out).2.2 | (with_reducible refine Kd.C_alloc ?_ _) | (with_reducible refine Kd.C_drewN ?_ _) | (with_reducible refine Kd.C_drew ?_)))
            (case side2 => exact (Kd.R_reads' aa.out).2.1)
            rintro e kR ⟨rfl, hb⟩
            refine ⟨_, rfl, ?_⟩
            have n0_ := Aside0.mk (Kd.V_below (by (with_reducible repeat (first | apply Kd.V_alloc | apply Kd.V_drewN | apply Kd.V_drew)); exact aw.out) hb)
            have n1_ := Aside0.mk (Kd.R_below (by (with_reducible repeat (first | apply Kd.R_alloc | apply Kd.R_drewN | apply Kd.R_drew)); exact aa.out) hb)
            have n2_ := Aside0.mk (Kd.V_below (by (with_reducible repeat (first | apply Kd.V_alloc | apply Kd.V_drewN | apply Kd.V_drew)); exact az.out) hb)
            have n3_ := Aside0.mk (Kd.R_below (by (with_reducible repeat (first | apply Kd.R_alloc | apply Kd.R_drewN | apply Kd.R_drew)); exact aM.out) hb)
            have n4_ := Aside0.mk (blk_below (g := ah) (o := .cells #[.slice ap ae.length am] 24 (0, 0)) (by (with_reducible repeat (first | refine blk_drewN ?_ _ | refine blk_drew ?_ | refine blk_alloc ?_ _)); exact ac.out) hb)
            have n5_ := Aside0.mk (blk_below (g := ag) (o := .cells #[.string ai, .string aj] 34 (0, 0)) (by (with_reducible repeat (first | refine blk_drewN ?_ _ | refine blk_drew ?_ | refine blk_alloc ?_ _)); exact ab.out) hb)
            have n6_ := Aside0.mk (blk_below (g := al) (o := .cells #[.slice bl ak.length bm] 24 (0, 0)) (by (with_reducible repeat (first | refine blk_drewN ?_ _ | refine blk_drew ?_ | refine blk_alloc ?_ _)); exact af.out) hb)
            have n7_ := Aside0.mk (below_step (by repeat (first | (with_reducible first | exact HB.out | apply below_alloc | apply pw_below_drewN | apply below_drew1 | refine below_set ?_ an.out | refine below_set ?_ ao.out | refine below_set ?_ au.out) | exact HB.out)) hb)
            clear aw aa az aM ac ab af HB
            have aw := n0_
            have aa := n1_
            have az := n2_
            have aM := n3_
            have ac := n4_
            have ab := n5_
            have af := n6_
            have HB := n7_
            clear n0_ n1_ n2_ n3_ n4_ n5_ n6_ n7_
            (try clear hb)
            (try clear hb2)
            (try clear hk)
            (try clear hi)
            refine hK.out _ _ ((blk_cell ac.out 0).trans rfl) (fun hHeld => ?_)
            clear hK K
            refine norm_ (a' := ?_) ?_ ?_
            rotate_left
            ·show Act.put _ (some 48) _ = _
             simp only [Act.put, List.setIfInBounds_toArray, List.set_cons_zero, List.set_cons_succ, i64_w, i32_w]
             rfl
            refine pure_ (i := 2) (N := some 49) (v := ?_) (a' := ?_) #[true, true, true, true, false, false] rfl rfl (by kernel_rfl) (fun _ _ _ h => h) (Or.inl ⟨by rfl, ?_⟩) ?_ ?_
            rotate_left
            ·intro w'
             go_simp
             with_reducible rfl
            rotate_left
            ·simp only [Act.put, List.setIfInBounds_toArray, List.set_cons_zero, List.set_cons_succ, i64_w, i32_w]
             rfl
            refine one_ (i := 4) (N := some 51) #[true, true, true, true, true, false] rfl rfl (by kernel_rfl) (by decide) (fun K hK => ?_)
            refine goes_ Tryd.func11 (by kernel_rfl) rfl #[.agg #[.slice ap ae.length am]] (by rfl) rfl rfl (by (try simp only [List.map_toArray, List.map_cons, List.map_nil]); first | done | rfl | (simp only [List.length_drop, List.length_take]; rfl)) ?_
            with_reducible refine (graftwoodref10_May.calls kj5 _ _ ae bj _ ?side1 ?side2 A24.out).mono ?_
            (case side1 => repeat (first | exact (Kd.R_reads' aa.out).2.2 | (with_reducible refine Kd.C_alloc ?_ _) | (with_reducible refine Kd.C_drewN ?_ _) | (with_reducible refine Kd.C_drew ?_)))
            (case side2 => exact (Kd.R_reads' aa.out).2.1)
            rintro e i_ ⟨rfl, hb⟩
            refine ⟨_, rfl, ?_⟩
            have n0_ := Aside0.mk (Kd.V_below (by (with_reducible repeat (first | apply Kd.V_alloc | apply Kd.V_drewN | apply Kd.V_drew)); exact aw.out) hb)
            have n1_ := Aside0.mk (Kd.R_below (by (with_reducible repeat (first | apply Kd.R_alloc | apply Kd.R_drewN | apply Kd.R_drew)); exact aa.out) hb)
            have n2_ := Aside0.mk (Kd.V_below (by (with_reducible repeat (first | apply Kd.V_alloc | apply Kd.V_drewN | apply Kd.V_drew)); exact az.out) hb)
            have n3_ := Aside0.mk (Kd.R_below (by (with_reducible repeat (first | apply Kd.R_alloc | apply Kd.R_drewN | apply Kd.R_drew)); exact aM.out) hb)
            have n4_ := Aside0.mk (blk_below (g := ah) (o := .cells #[.slice ap ae.length am] 24 (0, 0)) (by (with_reducible repeat (first | refine blk_drewN ?_ _ | refine blk_drew ?_ | refine blk_alloc ?_ _)); exact ac.out) hb)
            have n5_ := Aside0.mk (blk_below (g := ag) (o := .cells #[.string ai, .string aj] 34 (0, 0)) (by (with_reducible repeat (first | refine blk_drewN ?_ _ | refine blk_drew ?_ | refine blk_alloc ?_ _)); exact ab.out) hb)
            have n6_ := Aside0.mk (blk_below (g := al) (o := .cells #[.slice bl ak.length bm] 24 (0, 0)) (by (with_reducible repeat (first | refine blk_drewN ?_ _ | refine blk_drew ?_ | refine blk_alloc ?_ _)); exact af.out) hb)
            have n7_ := Aside0.mk (below_step (by repeat (first | (with_reducible first | exact HB.out | apply below_alloc | apply pw_below_drewN | apply below_drew1 | refine below_set ?_ an.out | refine below_set ?_ ao.out | refine below_set ?_ au.out) | exact HB.out)) hb)
            clear aw aa az aM ac ab af HB
            have aw := n0_
            have aa := n1_
            have az := n2_
            have aM := n3_
            have ac := n4_
            have ab := n5_
            have af := n6_
            have HB := n7_
            clear n0_ n1_ n2_ n3_ n4_ n5_ n6_ n7_
            (try clear hb)
            (try clear hb2)
            (try clear hk)
            (try clear hi)
            refine hK.out _ _ ((blk_cell ac.out 0).trans rfl) (fun hHeld => ?_)
            clear hK K
            refine norm_ (a' := ?_) ?_ ?_
            rotate_left
            ·show Act.put _ (some 51) _ = _
             simp only [Act.put, List.setIfInBounds_toArray, List.set_cons_zero, List.set_cons_succ, i64_w, i32_w]
             rfl
            refine pure_ (i := 5) (N := some 52) (v := ?_) (a' := ?_) #[true, true, true, true, true, true] rfl rfl (by kernel_rfl) (fun _ _ _ h => h) (Or.inl ⟨by rfl, ?_⟩) ?_ ?_
            rotate_left
            ·intro w'
             go_simp
             with_reducible rfl
            rotate_left
            ·simp only [Act.put, List.setIfInBounds_toArray, List.set_cons_zero, List.set_cons_succ, i64_w, i32_w]
             rfl
            refine done_ (by kernel_rfl) ?_
            have gj : i_.cell? ⟨ah, 0, none⟩ = some (.slice ap ae.length am) := (blk_cell ac.out 0).trans rfl
            have gl := blk_frozen ac.out 0
            try go_wp2_with (first | ((with_reducible refine gate_callee (f := 11) rfl ?_); refine goesL_ (some 54) rfl rfl Tryd.func11 (by kernel_rfl) rfl #[.agg #[.slice ap ae.length am]] rfl (by (try simp only [List.map_toArray, List.map_cons, List.map_nil]); first | done | rfl | (simp only [List.length_drop, List.length_take]; rfl)) ?_; (with_reducible refine (graftwoodref10_May.calls kj5 _ _ ae false _ ?side1 ?side2 A44.out).mono ?_); (case side1 => repeat (first | exact (Kd.R_reads' aa.out).2.2 | (with_reducible refine Kd.C_alloc ?_ _) | (with_reducible refine Kd.C_drewN ?_ _) | (with_reducible refine Kd.C_drew ?_))); (case side2 => exact (Kd.R_reads' aa.out).2.1); rintro e gm ⟨rfl, hb⟩; refine ⟨_, rfl, ?_⟩; have n0_ := Aside0.mk (Kd.V_below (by (with_reducible repeat (first | apply Kd.V_alloc | apply Kd.V_drewN | apply Kd.V_drew)); exact aw.out) hb); have n1_ := Aside0.mk (Kd.R_below (by (with_reducible repeat (first | apply Kd.R_alloc | apply Kd.R_drewN | apply Kd.R_drew)); exact aa.out) hb); have n2_ := Aside0.mk (Kd.V_below (by (with_reducible repeat (first | apply Kd.V_alloc | apply Kd.V_drewN | apply Kd.V_drew)); exact az.out) hb); have n3_ := Aside0.mk (Kd.R_below (by (with_reducible repeat (first | apply Kd.R_alloc | apply Kd.R_drewN | apply Kd.R_drew)); exact aM.out) hb); have n4_ := Aside0.mk (blk_below (g := ah) (o := .cells #[.slice ap ae.length am] 24 (0, 0)) (by (with_reducible repeat (first | refine blk_drewN ?_ _ | refine blk_drew ?_ | refine blk_alloc ?_ _)); exact ac.out) hb); have n5_ := Aside0.mk (blk_below (g := ag) (o := .cells #[.string ai, .string aj] 34 (0, 0)) (by (with_reducible repeat (first | refine blk_drewN ?_ _ | refine blk_drew ?_ | refine blk_alloc ?_ _)); exact ab.out) hb); have n6_ := Aside0.mk (blk_below (g := al) (o := .cells #[.slice bl ak.length bm] 24 (0, 0)) (by (with_reducible repeat (first | refine blk_drewN ?_ _ | refine blk_drew ?_ | refine blk_alloc ?_ _)); exact af.out) hb); have n7_ := Aside0.mk (below_step (by repeat (first | (with_reducible first | exact HB.out | apply below_alloc | apply pw_below_drewN | apply below_drew1 | refine below_set ?_ an.out | refine below_set ?_ ao.out | refine below_set ?_ au.out) | exact HB.out)) hb); clear aw; clear aa; clear az; clear aM; clear ac; clear ab; clear af; clear HB; have aw := n0_; have aa := n1_; have az := n2_; have aM := n3_; have ac := n4_; have ab := n5_; have af := n6_; have HB := n7_; clear n0_ n1_ n2_ n3_ n4_ n5_ n6_ n7_; (try clear hb); (try clear hb2); (try clear hk); (try clear hi); have gn : gm.cell? ⟨al, 0, none⟩ = some (.slice bl ak.length bm) := (blk_cell af.out 0).trans rfl; have go := blk_frozen af.out 0; have gp : gm.cell? ⟨ah, 0, none⟩ = some (.slice ap ae.length am) := (blk_cell ac.out 0).trans rfl; have gq := blk_frozen ac.out 0) | (go_at_call 13; (with_reducible refine (graftwoodlaw10_same.calls kj5 _ _ ak _ _ ae true _ ?side1 ?side2 ?side3 ?side4 i1.out).mono ?_); (case side1 => repeat (first | exact (Kd.V_reads' az.out).2.2 | (with_reducible refine Kd.C_alloc ?_ _) | (with_reducible refine Kd.C_drewN ?_ _) | (with_reducible refine Kd.C_drew ?_))); (case side2 => exact (Kd.V_reads' az.out).2.1); (case side3 => repeat (first | exact (Kd.R_reads' aa.out).2.2 | (with_reducible refine Kd.C_alloc ?_ _) | (with_reducible refine Kd.C_drewN ?_ _) | (with_reducible refine Kd.C_drew ?_))); (case side4 => exact (Kd.R_reads' aa.out).2.1); rintro e kS ⟨rfl, hb⟩; have n0_ := Aside0.mk (Kd.V_below (by (with_reducible repeat (first | apply Kd.V_alloc | apply Kd.V_drewN | apply Kd.V_drew)); exact aw.out) hb); have n1_ := Aside0.mk (Kd.R_below (by (with_reducible repeat (first | apply Kd.R_alloc | apply Kd.R_drewN | apply Kd.R_drew)); exact aa.out) hb); have n2_ := Aside0.mk (Kd.V_below (by (with_reducible repeat (first | apply Kd.V_alloc | apply Kd.V_drewN | apply Kd.V_drew)); exact az.out) hb); have n3_ := Aside0.mk (Kd.R_below (by (with_reducible repeat (first | apply Kd.R_alloc | apply Kd.R_drewN | apply Kd.R_drew)); exact aM.out) hb); have n4_ := Aside0.mk (blk_below (g := ah) (o := .cells #[.slice ap ae.length am] 24 (0, 0)) (by (with_reducible repeat (first | refine blk_drewN ?_ _ | refine blk_drew ?_ | refine blk_alloc ?_ _)); exact ac.out) hb); have n5_ := Aside0.mk (blk_below (g := ag) (o := .cells #[.string ai, .string aj] 34 (0, 0)) (by (with_reducible repeat (first | refine blk_drewN ?_ _ | refine blk_drew ?_ | refine blk_alloc ?_ _)); exact ab.out) hb); have n6_ := Aside0.mk (blk_below (g := al) (o := .cells #[.slice bl ak.length bm] 24 (0, 0)) (by (with_reducible repeat (first | refine blk_drewN ?_ _ | refine blk_drew ?_ | refine blk_alloc ?_ _)); exact af.out) hb); have n7_ := Aside0.mk (below_step (by repeat (first | (with_reducible first | exact HB.out | apply below_alloc | apply pw_below_drewN | apply below_drew1 | refine below_set ?_ an.out | refine below_set ?_ ao.out | refine below_set ?_ au.out) | exact HB.out)) hb); clear aw; clear aa; clear az; clear aM; clear ac; clear ab; clear af; clear HB; have aw := n0_; have aa := n1_; have az := n2_; have aM := n3_; have ac := n4_; have ab := n5_; have af := n6_; have HB := n7_; clear n0_ n1_ n2_ n3_ n4_ n5_ n6_ n7_; (try clear hb); (try clear hb2); (try clear hk); (try clear hi); obtain ⟨ju, jv, gr⟩ := Kd.R_slice aM.out; subst gr) | (go_at_call 14; (with_reducible refine (graftwoodlaw10_awake.calls kj5  bh _ i2.out).mono ?_); rintro e kT ⟨rfl, hb⟩; have n0_ := Aside0.mk (Kd.V_below (by (with_reducible repeat (first | apply Kd.V_alloc | apply Kd.V_drewN | apply Kd.V_drew)); exact aw.out) hb); have n1_ := Aside0.mk (Kd.R_below (by (with_reducible repeat (first | apply Kd.R_alloc | apply Kd.R_drewN | apply Kd.R_drew)); exact aa.out) hb); have n2_ := Aside0.mk (Kd.V_below (by (with_reducible repeat (first | apply Kd.V_alloc | apply Kd.V_drewN | apply Kd.V_drew)); exact az.out) hb); have n3_ := Aside0.mk (Kd.R_below (by (with_reducible repeat (first | apply Kd.R_alloc | apply Kd.R_drewN | apply Kd.R_drew)); exact aM.out) hb); have n4_ := Aside0.mk (blk_below (g := ah) (o := .cells #[.slice ap ae.length am] 24 (0, 0)) (by (with_reducible repeat (first | refine blk_drewN ?_ _ | refine blk_drew ?_ | refine blk_alloc ?_ _)); exact ac.out) hb); have n5_ := Aside0.mk (blk_below (g := ag) (o := .cells #[.string ai, .string aj] 34 (0, 0)) (by (with_reducible repeat (first | refine blk_drewN ?_ _ | refine blk_drew ?_ | refine blk_alloc ?_ _)); exact ab.out) hb); have n6_ := Aside0.mk (blk_below (g := al) (o := .cells #[.slice bl ak.length bm] 24 (0, 0)) (by (with_reducible repeat (first | refine blk_drewN ?_ _ | refine blk_drew ?_ | refine blk_alloc ?_ _)); exact af.out) hb); have n7_ := Aside0.mk (below_step (by repeat (first | (with_reducible first | exact HB.out | apply below_alloc | apply pw_below_drewN | apply below_drew1 | refine below_set ?_ an.out | refine below_set ?_ ao.out | refine below_set ?_ au.out) | exact HB.out)) hb); clear aw; clear aa; clear az; clear aM; clear ac; clear ab; clear af; clear HB; have aw := n0_; have aa := n1_; have az := n2_; have aM := n3_; have ac := n4_; have ab := n5_; have af := n6_; have HB := n7_; clear n0_ n1_ n2_ n3_ n4_ n5_ n6_ n7_; (try clear hb); (try clear hb2); (try clear hk); (try clear hi)))
            go_ret
            exact ⟨by first | rfl | (simp [errW_none, errW_some] <;> rfl) | (simp [*, errW_none, errW_some] <;> rfl), by repeat (first | (with_reducible first | exact HB.out | apply below_alloc | apply pw_below_drewN | apply below_drew1 | refine below_set ?_ an.out | refine below_set ?_ ao.out | refine below_set ?_ au.out) | exact HB.out)⟩
           ·rw [if_neg b9] at H
            have fo : (be == 1) = false := beq_eq_false_iff_ne.mpr b9
            have fp : (be != 1) = true := bne_iff_ne.mpr b9
            exact absurd ((Option.some.inj H).trans hR_) (by decide)
          ·rw [if_neg bU] at H
           have fm : ((bc.length : Int) == 0) = false := beq_eq_false_iff_ne.mpr bU
           have fn : ((bc.length : Int) != 0) = true := bne_iff_ne.mpr bU
           have ja : ¬ (bc = []) := fun h_ => bU (by rw [h_]; rfl)
           exact absurd ((Option.some.inj H).trans hR_) (by decide)
         ·rw [if_neg b8] at H
          have fk : (ar == 1) = false := beq_eq_false_iff_ne.mpr b8
          have fl : (ar != 1) = true := bne_iff_ne.mpr b8
          exact absurd ((Option.some.inj H).trans hR_) (by decide)
        ·replace ez := Bool.eq_false_iff.mpr ez
         subst ez
         have H1 : (some false) = some r := by rw [if_neg (show ¬ (false = true) by decide)] at H; exact H
         clear H
         have H := H1
         clear H1
         exact absurd ((Option.some.inj H).trans hR_) (by decide)
       ·rw [if_neg b7] at H
        have fi : (ax == 0) = false := beq_eq_false_iff_ne.mpr b7
        have fj : (ax != 0) = true := bne_iff_ne.mpr b7
        exact absurd ((Option.some.inj H).trans hR_) (by decide)
      ·rw [if_neg b6] at H
       have fg : (aE == 1) = false := beq_eq_false_iff_ne.mpr b6
       have fh : (aE != 1) = true := bne_iff_ne.mpr b6
       exact absurd ((Option.some.inj H).trans hR_) (by decide)
     ·rw [if_neg b5] at H
      have fe : (aA == 0) = false := beq_eq_false_iff_ne.mpr b5
      have ff : (aA != 0) = true := bne_iff_ne.mpr b5
      exact absurd ((Option.some.inj H).trans hR_) (by decide)
end Go.Proofs.YtjneghnknfhboaaDoor.P
